/- Chapter 16: programs in which something is another thing. -/
import Derived.Test.YtjmbhlgocikfiaaGreatDoorTDx5
import Derived.Test.YtjmbhlgocikfiaaGreatDoorTAvC
import Derived.Test.YtjmbhlgocikfiaaGreatDoorTB12
set_option linter.unusedVariables false
set_option linter.unnecessarySimpa false
set_option linter.unusedSimpArgs false
namespace Go.Proofs.YtjmbhlgocikfiaaGreatDoor
open Go Go.Av
attribute [local irreducible] AWp AOps AAny MAny DQ retQ retG St.le FCall GCall
set_option maxRecDepth 100000
theorem nlss_ofR:∀ {l m:List (List AV)},l.length = m.length → (∀ (j:Nat) x y,l[j]? = some x → m[j]? = some y → NLs x y) → NLss l m
 | [],[],_,_=>trivial
 | x :: r,y :: s,h,hh=>⟨hh 0 x y rfl rfl,nlss_ofR (by simpa using h) fun j a b ha hb=>hh (j + 1) a b (by simpa using ha) (by simpa using hb)⟩
 | [],_ :: _,h,_=>by simp at h
 | _ :: _,[],h,_=>by simp at h
theorem nlss_setR {L:List Stm} {k:Nat} {C:List AV} {x:Stm} (h:NLs C (stmL x)):NLss ((L.map stmL).set k C) ((L.set k x).map stmL):=by
 refine nlss_ofR (by simp) fun j a b ha hb=>?_
 rw [List.map_set] at hb
 rw [List.getElem?_set] at ha hb
 by_cases e:k = j
 ·subst e
  rw [if_pos rfl] at ha hb
  split at ha
  ·rename_i h1
   rw [if_pos h1] at hb
   cases ha;cases hb
   exact h
  ·cases ha
 ·rw [if_neg e] at ha hb
  rw [ha] at hb
  cases hb
  exact NLs.refl _
theorem setR {L:List Stm} {k:Nat} {C:List AV} {x:Stm} (h:C = stmL x):(L.map stmL).set k C = (L.set k x).map stmL:=by rw [h,List.map_set]
abbrev nilP:AV:=.v (.slice none 0 0)
abbrev drX (l:List UInt8) (a:Nat):Option Blk:=some (.box [.sl 1 (l.map u8A), .i a])
set_option maxHeartbeats 16000000 in
theorem spo16_1 (l:List UInt8) (s:Sch) (hd:Drawn s) (hl:l.length ≤ 400) (a a1 a2 a3:Nat) (L:List Stm) (hLl:L.length ≤ 30) (hpro:GCall Tryz.prog 16 1 (drB l a) [.ref 0 0,sA s, .i 4] 2 [(0,drX l a1),(1,some (.row stmT 21 0 (L.map stmL)))] (.row 1 0 L.length)) (k:Nat) (hkl:k < L.length) (hk:GCall Tryz.prog 28 1 (drB l a1) [.ref 0 0, .i L.length] 1 (drB l a2) (.i k)) (x:Stm) (hx:L[k]? = some x) (hcl:x.x.cols.length ≤ 10 ∧ x.x.dims.length ≤ 10 ∧ x.x.kids.length ≤ 10) (w:Nat) (hw:GCall Tryz.prog 28 1 (drB l a2) [.ref 0 0, .i 16] 1 (drB l a3) (.i w)) (by':Int) (nm:List UInt8) (hc:w = 1):∃ (L2:List Stm) (b:Nat),GCall Tryz.prog 12 1 (drB l a) [.ref 0 0,sA s, .i by', .str nm] 1 (drB l b) (.sl 21 (L2.map stmL)):=by
 refine ⟨L.set k ⟨nm,x.out,x.x⟩,a3,?_⟩
 have hX:(L.map stmL).set k ((stmL x).set 0 (.str nm)) = (L.set k ⟨nm,x.out,x.x⟩).map stmL:=setR rfl
 refine gci Tryz.func12 162 fun E h0=>?_
 repeat' ((first | (refine each_knownm (x:=x) hx (by omega) ?_) |refine aops_go ?_|refine S1 ?_|refine Z1 ?_|refine Z2 ?_|(refine And.intro ?_ ?_<;>intro h<;>try first|(exfalso;omega)|exact absurd rfl h)|refine Z3 ?_|refine Z4 ?_|intro el hel hbB|intro el hel|intro ex|refine Z5 ?_|(refine free_i ?_ ?_;exact ⟨by kernel_rfl,by decide⟩)|refine allI_c ?_ ?_|exact allI_n|refine allMP_c ?_ ?_|exact allMP_n|(refine many_step ?_ ?_ ?_;kernel_rfl;kernel_rfl) | refine nc [0] [0] hpro rfl rfl rfl ⟨rfl,trivial⟩ ?_ | refine nc [0] [0] hk rfl rfl rfl ⟨rfl,trivial⟩ ?_ | refine nc [0] [0] hw rfl rfl rfl ⟨rfl,trivial⟩ ?_) <;> (try (conv=>whnf)))
 all_goals first
  | exact retg_tmp (le_of h0 rfl ⟨congrArg (fun z=>some (AV.sl 21 z)) hX,trivial⟩ ⟨rfl,trivial⟩ rfl rfl rfl)
  | (exfalso;omega)
set_option maxHeartbeats 16000000 in
theorem spo16_2 (l:List UInt8) (s:Sch) (hd:Drawn s) (hl:l.length ≤ 400) (a a1 a2 a3:Nat) (L:List Stm) (hLl:L.length ≤ 30) (hpro:GCall Tryz.prog 16 1 (drB l a) [.ref 0 0,sA s, .i 4] 2 [(0,drX l a1),(1,some (.row stmT 21 0 (L.map stmL)))] (.row 1 0 L.length)) (k:Nat) (hkl:k < L.length) (hk:GCall Tryz.prog 28 1 (drB l a1) [.ref 0 0, .i L.length] 1 (drB l a2) (.i k)) (x:Stm) (hx:L[k]? = some x) (hcl:x.x.cols.length ≤ 10 ∧ x.x.dims.length ≤ 10 ∧ x.x.kids.length ≤ 10) (w:Nat) (hw:GCall Tryz.prog 28 1 (drB l a2) [.ref 0 0, .i 16] 1 (drB l a3) (.i w)) (by':Int) (nm:List UInt8) (hc:w = 2):∃ (L2:List Stm) (b:Nat),GCall Tryz.prog 12 1 (drB l a) [.ref 0 0,sA s, .i by', .str nm] 1 (drB l b) (.sl 21 (L2.map stmL)):=by
 refine ⟨L.set k ⟨x.name,x.out,(.mk by' x.x.num x.x.name x.x.col x.x.cols x.x.dims x.x.cnd x.x.evt x.x.kids)⟩,a3,?_⟩
 have hX:(L.map stmL).set k ((stmL x).set 2 (.i by')) = (L.set k ⟨x.name,x.out,(.mk by' x.x.num x.x.name x.x.col x.x.cols x.x.dims x.x.cnd x.x.evt x.x.kids)⟩).map stmL:=setR rfl
 refine gci Tryz.func12 162 fun E h0=>?_
 repeat' ((first | (refine each_knownm (x:=x) hx (by omega) ?_) |refine aops_go ?_|refine S1 ?_|refine Z1 ?_|refine Z2 ?_|(refine And.intro ?_ ?_<;>intro h<;>try first|(exfalso;omega)|exact absurd rfl h)|refine Z3 ?_|refine Z4 ?_|intro el hel hbB|intro el hel|intro ex|refine Z5 ?_|(refine free_i ?_ ?_;exact ⟨by kernel_rfl,by decide⟩)|refine allI_c ?_ ?_|exact allI_n|refine allMP_c ?_ ?_|exact allMP_n|(refine many_step ?_ ?_ ?_;kernel_rfl;kernel_rfl) | refine nc [0] [0] hpro rfl rfl rfl ⟨rfl,trivial⟩ ?_ | refine nc [0] [0] hk rfl rfl rfl ⟨rfl,trivial⟩ ?_ | refine nc [0] [0] hw rfl rfl rfl ⟨rfl,trivial⟩ ?_) <;> (try (conv=>whnf)))
 all_goals first
  | exact retg_tmp (le_of h0 rfl ⟨congrArg (fun z=>some (AV.sl 21 z)) hX,trivial⟩ ⟨rfl,trivial⟩ rfl rfl rfl)
  | (exfalso;omega)
set_option maxHeartbeats 16000000 in
theorem spo16_3 (l:List UInt8) (s:Sch) (hd:Drawn s) (hl:l.length ≤ 400) (a a1 a2 a3:Nat) (L:List Stm) (hLl:L.length ≤ 30) (hpro:GCall Tryz.prog 16 1 (drB l a) [.ref 0 0,sA s, .i 4] 2 [(0,drX l a1),(1,some (.row stmT 21 0 (L.map stmL)))] (.row 1 0 L.length)) (k:Nat) (hkl:k < L.length) (hk:GCall Tryz.prog 28 1 (drB l a1) [.ref 0 0, .i L.length] 1 (drB l a2) (.i k)) (x:Stm) (hx:L[k]? = some x) (hcl:x.x.cols.length ≤ 10 ∧ x.x.dims.length ≤ 10 ∧ x.x.kids.length ≤ 10) (w:Nat) (hw:GCall Tryz.prog 28 1 (drB l a2) [.ref 0 0, .i 16] 1 (drB l a3) (.i w)) (by':Int) (nm:List UInt8) (hc:w = 3):∃ (L2:List Stm) (b:Nat),GCall Tryz.prog 12 1 (drB l a) [.ref 0 0,sA s, .i by', .str nm] 1 (drB l b) (.sl 21 (L2.map stmL)):=by
 refine ⟨L.set k ⟨x.name,x.out,(.mk x.x.op by' x.x.name x.x.col x.x.cols x.x.dims x.x.cnd x.x.evt x.x.kids)⟩,a3,?_⟩
 have hX:(L.map stmL).set k ((stmL x).set 3 (.i by')) = (L.set k ⟨x.name,x.out,(.mk x.x.op by' x.x.name x.x.col x.x.cols x.x.dims x.x.cnd x.x.evt x.x.kids)⟩).map stmL:=setR rfl
 refine gci Tryz.func12 162 fun E h0=>?_
 repeat' ((first | (refine each_knownm (x:=x) hx (by omega) ?_) |refine aops_go ?_|refine S1 ?_|refine Z1 ?_|refine Z2 ?_|(refine And.intro ?_ ?_<;>intro h<;>try first|(exfalso;omega)|exact absurd rfl h)|refine Z3 ?_|refine Z4 ?_|intro el hel hbB|intro el hel|intro ex|refine Z5 ?_|(refine free_i ?_ ?_;exact ⟨by kernel_rfl,by decide⟩)|refine allI_c ?_ ?_|exact allI_n|refine allMP_c ?_ ?_|exact allMP_n|(refine many_step ?_ ?_ ?_;kernel_rfl;kernel_rfl) | refine nc [0] [0] hpro rfl rfl rfl ⟨rfl,trivial⟩ ?_ | refine nc [0] [0] hk rfl rfl rfl ⟨rfl,trivial⟩ ?_ | refine nc [0] [0] hw rfl rfl rfl ⟨rfl,trivial⟩ ?_) <;> (try (conv=>whnf)))
 all_goals first
  | exact retg_tmp (le_of h0 rfl ⟨congrArg (fun z=>some (AV.sl 21 z)) hX,trivial⟩ ⟨rfl,trivial⟩ rfl rfl rfl)
  | (exfalso;omega)
set_option maxHeartbeats 16000000 in
theorem spo16_4 (l:List UInt8) (s:Sch) (hd:Drawn s) (hl:l.length ≤ 400) (a a1 a2 a3:Nat) (L:List Stm) (hLl:L.length ≤ 30) (hpro:GCall Tryz.prog 16 1 (drB l a) [.ref 0 0,sA s, .i 4] 2 [(0,drX l a1),(1,some (.row stmT 21 0 (L.map stmL)))] (.row 1 0 L.length)) (k:Nat) (hkl:k < L.length) (hk:GCall Tryz.prog 28 1 (drB l a1) [.ref 0 0, .i L.length] 1 (drB l a2) (.i k)) (x:Stm) (hx:L[k]? = some x) (hcl:x.x.cols.length ≤ 10 ∧ x.x.dims.length ≤ 10 ∧ x.x.kids.length ≤ 10) (w:Nat) (hw:GCall Tryz.prog 28 1 (drB l a2) [.ref 0 0, .i 16] 1 (drB l a3) (.i w)) (by':Int) (nm:List UInt8) (hc:w = 4):∃ (L2:List Stm) (b:Nat),GCall Tryz.prog 12 1 (drB l a) [.ref 0 0,sA s, .i by', .str nm] 1 (drB l b) (.sl 21 (L2.map stmL)):=by
 refine ⟨L.set k ⟨x.name,x.out,(.mk x.x.op x.x.num nm x.x.col x.x.cols x.x.dims x.x.cnd x.x.evt x.x.kids)⟩,a3,?_⟩
 have hX:(L.map stmL).set k ((stmL x).set 4 (.str nm)) = (L.set k ⟨x.name,x.out,(.mk x.x.op x.x.num nm x.x.col x.x.cols x.x.dims x.x.cnd x.x.evt x.x.kids)⟩).map stmL:=setR rfl
 refine gci Tryz.func12 162 fun E h0=>?_
 repeat' ((first | (refine each_knownm (x:=x) hx (by omega) ?_) |refine aops_go ?_|refine S1 ?_|refine Z1 ?_|refine Z2 ?_|(refine And.intro ?_ ?_<;>intro h<;>try first|(exfalso;omega)|exact absurd rfl h)|refine Z3 ?_|refine Z4 ?_|intro el hel hbB|intro el hel|intro ex|refine Z5 ?_|(refine free_i ?_ ?_;exact ⟨by kernel_rfl,by decide⟩)|refine allI_c ?_ ?_|exact allI_n|refine allMP_c ?_ ?_|exact allMP_n|(refine many_step ?_ ?_ ?_;kernel_rfl;kernel_rfl) | refine nc [0] [0] hpro rfl rfl rfl ⟨rfl,trivial⟩ ?_ | refine nc [0] [0] hk rfl rfl rfl ⟨rfl,trivial⟩ ?_ | refine nc [0] [0] hw rfl rfl rfl ⟨rfl,trivial⟩ ?_) <;> (try (conv=>whnf)))
 all_goals first
  | exact retg_tmp (le_of h0 rfl ⟨congrArg (fun z=>some (AV.sl 21 z)) hX,trivial⟩ ⟨rfl,trivial⟩ rfl rfl rfl)
  | (exfalso;omega)
set_option maxHeartbeats 16000000 in
theorem spo16_5 (l:List UInt8) (s:Sch) (hd:Drawn s) (hl:l.length ≤ 400) (a a1 a2 a3:Nat) (L:List Stm) (hLl:L.length ≤ 30) (hpro:GCall Tryz.prog 16 1 (drB l a) [.ref 0 0,sA s, .i 4] 2 [(0,drX l a1),(1,some (.row stmT 21 0 (L.map stmL)))] (.row 1 0 L.length)) (k:Nat) (hkl:k < L.length) (hk:GCall Tryz.prog 28 1 (drB l a1) [.ref 0 0, .i L.length] 1 (drB l a2) (.i k)) (x:Stm) (hx:L[k]? = some x) (hcl:x.x.cols.length ≤ 10 ∧ x.x.dims.length ≤ 10 ∧ x.x.kids.length ≤ 10) (w:Nat) (hw:GCall Tryz.prog 28 1 (drB l a2) [.ref 0 0, .i 16] 1 (drB l a3) (.i w)) (by':Int) (nm:List UInt8) (hc:w = 5):∃ (L2:List Stm) (b:Nat),GCall Tryz.prog 12 1 (drB l a) [.ref 0 0,sA s, .i by', .str nm] 1 (drB l b) (.sl 21 (L2.map stmL)):=by
 refine ⟨L.set k ⟨x.name,x.out,(.mk x.x.op x.x.num x.x.name by' x.x.cols x.x.dims x.x.cnd x.x.evt x.x.kids)⟩,a3,?_⟩
 have hX:(L.map stmL).set k ((stmL x).set 5 (.i by')) = (L.set k ⟨x.name,x.out,(.mk x.x.op x.x.num x.x.name by' x.x.cols x.x.dims x.x.cnd x.x.evt x.x.kids)⟩).map stmL:=setR rfl
 refine gci Tryz.func12 162 fun E h0=>?_
 repeat' ((first | (refine each_knownm (x:=x) hx (by omega) ?_) |refine aops_go ?_|refine S1 ?_|refine Z1 ?_|refine Z2 ?_|(refine And.intro ?_ ?_<;>intro h<;>try first|(exfalso;omega)|exact absurd rfl h)|refine Z3 ?_|refine Z4 ?_|intro el hel hbB|intro el hel|intro ex|refine Z5 ?_|(refine free_i ?_ ?_;exact ⟨by kernel_rfl,by decide⟩)|refine allI_c ?_ ?_|exact allI_n|refine allMP_c ?_ ?_|exact allMP_n|(refine many_step ?_ ?_ ?_;kernel_rfl;kernel_rfl) | refine nc [0] [0] hpro rfl rfl rfl ⟨rfl,trivial⟩ ?_ | refine nc [0] [0] hk rfl rfl rfl ⟨rfl,trivial⟩ ?_ | refine nc [0] [0] hw rfl rfl rfl ⟨rfl,trivial⟩ ?_) <;> (try (conv=>whnf)))
 all_goals first
  | exact retg_tmp (le_of h0 rfl ⟨congrArg (fun z=>some (AV.sl 21 z)) hX,trivial⟩ ⟨rfl,trivial⟩ rfl rfl rfl)
  | (exfalso;omega)
set_option maxHeartbeats 16000000 in
theorem spo16_8 (l:List UInt8) (s:Sch) (hd:Drawn s) (hl:l.length ≤ 400) (a a1 a2 a3:Nat) (L:List Stm) (hLl:L.length ≤ 30) (hpro:GCall Tryz.prog 16 1 (drB l a) [.ref 0 0,sA s, .i 4] 2 [(0,drX l a1),(1,some (.row stmT 21 0 (L.map stmL)))] (.row 1 0 L.length)) (k:Nat) (hkl:k < L.length) (hk:GCall Tryz.prog 28 1 (drB l a1) [.ref 0 0, .i L.length] 1 (drB l a2) (.i k)) (x:Stm) (hx:L[k]? = some x) (hcl:x.x.cols.length ≤ 10 ∧ x.x.dims.length ≤ 10 ∧ x.x.kids.length ≤ 10) (w:Nat) (hw:GCall Tryz.prog 28 1 (drB l a2) [.ref 0 0, .i 16] 1 (drB l a3) (.i w)) (by':Int) (nm:List UInt8) (hc:w = 8):∃ (L2:List Stm) (b:Nat),GCall Tryz.prog 12 1 (drB l a) [.ref 0 0,sA s, .i by', .str nm] 1 (drB l b) (.sl 21 (L2.map stmL)):=by
 refine ⟨L.set k ⟨x.name,x.out,(.mk x.x.op x.x.num x.x.name x.x.col x.x.cols x.x.dims (.mk by' x.x.cnd.col x.x.cnd.code x.x.cnd.lo x.x.cnd.hi x.x.cnd.kids) x.x.evt x.x.kids)⟩,a3,?_⟩
 have hX:(L.map stmL).set k ((stmL x).set 8 (.i by')) = (L.set k ⟨x.name,x.out,(.mk x.x.op x.x.num x.x.name x.x.col x.x.cols x.x.dims (.mk by' x.x.cnd.col x.x.cnd.code x.x.cnd.lo x.x.cnd.hi x.x.cnd.kids) x.x.evt x.x.kids)⟩).map stmL:=setR rfl
 refine gci Tryz.func12 162 fun E h0=>?_
 repeat' ((first | (refine each_knownm (x:=x) hx (by omega) ?_) |refine aops_go ?_|refine S1 ?_|refine Z1 ?_|refine Z2 ?_|(refine And.intro ?_ ?_<;>intro h<;>try first|(exfalso;omega)|exact absurd rfl h)|refine Z3 ?_|refine Z4 ?_|intro el hel hbB|intro el hel|intro ex|refine Z5 ?_|(refine free_i ?_ ?_;exact ⟨by kernel_rfl,by decide⟩)|refine allI_c ?_ ?_|exact allI_n|refine allMP_c ?_ ?_|exact allMP_n|(refine many_step ?_ ?_ ?_;kernel_rfl;kernel_rfl) | refine nc [0] [0] hpro rfl rfl rfl ⟨rfl,trivial⟩ ?_ | refine nc [0] [0] hk rfl rfl rfl ⟨rfl,trivial⟩ ?_ | refine nc [0] [0] hw rfl rfl rfl ⟨rfl,trivial⟩ ?_) <;> (try (conv=>whnf)))
 all_goals first
  | exact retg_tmp (le_of h0 rfl ⟨congrArg (fun z=>some (AV.sl 21 z)) hX,trivial⟩ ⟨rfl,trivial⟩ rfl rfl rfl)
  | (exfalso;omega)
set_option maxHeartbeats 16000000 in
theorem spo16_6 (l:List UInt8) (s:Sch) (hd:Drawn s) (hl:l.length ≤ 400) (a a1 a2 a3:Nat) (L:List Stm) (hLl:L.length ≤ 30) (hpro:GCall Tryz.prog 16 1 (drB l a) [.ref 0 0,sA s, .i 4] 2 [(0,drX l a1),(1,some (.row stmT 21 0 (L.map stmL)))] (.row 1 0 L.length)) (k:Nat) (hkl:k < L.length) (hk:GCall Tryz.prog 28 1 (drB l a1) [.ref 0 0, .i L.length] 1 (drB l a2) (.i k)) (x:Stm) (hx:L[k]? = some x) (hcl:x.x.cols.length ≤ 10 ∧ x.x.dims.length ≤ 10 ∧ x.x.kids.length ≤ 10) (w:Nat) (hw:GCall Tryz.prog 28 1 (drB l a2) [.ref 0 0, .i 16] 1 (drB l a3) (.i w)) (by':Int) (nm:List UInt8) (hc:w = 6):∃ (L2:List Stm) (b:Nat),GCall Tryz.prog 12 1 (drB l a) [.ref 0 0,sA s, .i by', .str nm] 1 (drB l b) (.sl 21 (L2.map stmL)):=by
 refine ⟨L.set k ⟨x.name,x.out,(.mk x.x.op x.x.num x.x.name x.x.col (x.x.cols ++ [by']) x.x.dims x.x.cnd x.x.evt x.x.kids)⟩,a3,?_⟩
 have hV:(AV.sl 1 (([] ++ x.x.cols.map wA) ++ [[.i by']])) = .sl 1 ((x.x.cols ++ [by']).map wA):=by rw [List.map_append,List.nil_append];rfl
 have hX:(L.map stmL).set k ((stmL x).set 6 (.sl 1 (([] ++ x.x.cols.map wA) ++ [[.i by']]))) = (L.set k ⟨x.name,x.out,(.mk x.x.op x.x.num x.x.name x.x.col (x.x.cols ++ [by']) x.x.dims x.x.cnd x.x.evt x.x.kids)⟩).map stmL:=by
  rw [hV];exact setR rfl
 have hln:(List.map wA x.x.cols).length ≤ 10:=by rw [List.length_map];omega
 refine gci Tryz.func12 162 fun E h0=>?_
 repeat' ((first | (refine each_knownm (x:=x) hx (by omega) ?_) | refine frz_store rfl ?_ |refine aops_go ?_|refine S1 ?_|refine Z1 ?_|refine Z2 ?_|(refine And.intro ?_ ?_<;>intro h<;>try first|(exfalso;omega)|exact absurd rfl h)|refine Z3 ?_|refine Z4 ?_|intro el hel hbB|intro el hel|intro ex|refine Z5 ?_|(refine free_i ?_ ?_;exact ⟨by kernel_rfl,by decide⟩)|refine allI_c ?_ ?_|exact allI_n|refine allMP_c ?_ ?_|exact allMP_n|(refine many_step ?_ ?_ ?_;kernel_rfl;kernel_rfl) | refine nc [0] [0] hpro rfl rfl rfl ⟨rfl,trivial⟩ ?_ | refine nc [0] [0] hk rfl rfl rfl ⟨rfl,trivial⟩ ?_ | refine nc [0] [0] hw rfl rfl rfl ⟨rfl,trivial⟩ ?_) <;> (try (conv=>whnf)))
 all_goals first
  | exact retg_tmp (le_of h0 rfl ⟨congrArg (fun z=>some (AV.sl 21 z)) hX,trivial⟩ ⟨rfl,trivial⟩ rfl rfl rfl)
  | (exfalso;omega)
set_option maxHeartbeats 16000000 in
theorem spo16_7 (l:List UInt8) (s:Sch) (hd:Drawn s) (hl:l.length ≤ 400) (a a1 a2 a3:Nat) (L:List Stm) (hLl:L.length ≤ 30) (hpro:GCall Tryz.prog 16 1 (drB l a) [.ref 0 0,sA s, .i 4] 2 [(0,drX l a1),(1,some (.row stmT 21 0 (L.map stmL)))] (.row 1 0 L.length)) (k:Nat) (hkl:k < L.length) (hk:GCall Tryz.prog 28 1 (drB l a1) [.ref 0 0, .i L.length] 1 (drB l a2) (.i k)) (x:Stm) (hx:L[k]? = some x) (hcl:x.x.cols.length ≤ 10 ∧ x.x.dims.length ≤ 10 ∧ x.x.kids.length ≤ 10) (w:Nat) (hw:GCall Tryz.prog 28 1 (drB l a2) [.ref 0 0, .i 16] 1 (drB l a3) (.i w)) (by':Int) (nm:List UInt8) (hc:w = 7):∃ (L2:List Stm) (b:Nat),GCall Tryz.prog 12 1 (drB l a) [.ref 0 0,sA s, .i by', .str nm] 1 (drB l b) (.sl 21 (L2.map stmL)):=by
 refine ⟨L.set k ⟨x.name,x.out,(.mk x.x.op x.x.num x.x.name x.x.col x.x.cols (x.x.dims ++ [(⟨by',0⟩:Pk)]) x.x.cnd x.x.evt x.x.kids)⟩,a3,?_⟩
 have hV:(AV.sl 2 (([] ++ x.x.dims.map pkL) ++ [[.i by', .i 0]])) = .sl 2 ((x.x.dims ++ [(⟨by',0⟩:Pk)]).map pkL):=by rw [List.map_append,List.nil_append];rfl
 have hX:(L.map stmL).set k ((stmL x).set 7 (.sl 2 (([] ++ x.x.dims.map pkL) ++ [[.i by', .i 0]]))) = (L.set k ⟨x.name,x.out,(.mk x.x.op x.x.num x.x.name x.x.col x.x.cols (x.x.dims ++ [(⟨by',0⟩:Pk)]) x.x.cnd x.x.evt x.x.kids)⟩).map stmL:=by
  rw [hV];exact setR rfl
 have hln:(List.map pkL x.x.dims).length ≤ 10:=by rw [List.length_map];omega
 refine gci Tryz.func12 162 fun E h0=>?_
 repeat' ((first | (refine each_knownm (x:=x) hx (by omega) ?_) | refine frz_store rfl ?_ |refine aops_go ?_|refine S1 ?_|refine Z1 ?_|refine Z2 ?_|(refine And.intro ?_ ?_<;>intro h<;>try first|(exfalso;omega)|exact absurd rfl h)|refine Z3 ?_|refine Z4 ?_|intro el hel hbB|intro el hel|intro ex|refine Z5 ?_|(refine free_i ?_ ?_;exact ⟨by kernel_rfl,by decide⟩)|refine allI_c ?_ ?_|exact allI_n|refine allMP_c ?_ ?_|exact allMP_n|(refine many_step ?_ ?_ ?_;kernel_rfl;kernel_rfl) | refine nc [0] [0] hpro rfl rfl rfl ⟨rfl,trivial⟩ ?_ | refine nc [0] [0] hk rfl rfl rfl ⟨rfl,trivial⟩ ?_ | refine nc [0] [0] hw rfl rfl rfl ⟨rfl,trivial⟩ ?_) <;> (try (conv=>whnf)))
 all_goals first
  | exact retg_tmp (le_of h0 rfl ⟨congrArg (fun z=>some (AV.sl 21 z)) hX,trivial⟩ ⟨rfl,trivial⟩ rfl rfl rfl)
  | (exfalso;omega)
set_option maxHeartbeats 16000000 in
theorem spo16_9 (l:List UInt8) (s:Sch) (hd:Drawn s) (hl:l.length ≤ 400) (a a1 a2 a3:Nat) (L:List Stm) (hLl:L.length ≤ 30) (hpro:GCall Tryz.prog 16 1 (drB l a) [.ref 0 0,sA s, .i 4] 2 [(0,drX l a1),(1,some (.row stmT 21 0 (L.map stmL)))] (.row 1 0 L.length)) (k:Nat) (hkl:k < L.length) (hk:GCall Tryz.prog 28 1 (drB l a1) [.ref 0 0, .i L.length] 1 (drB l a2) (.i k)) (x:Stm) (hx:L[k]? = some x) (hcl:x.x.cols.length ≤ 10 ∧ x.x.dims.length ≤ 10 ∧ x.x.kids.length ≤ 10) (w:Nat) (hw:GCall Tryz.prog 28 1 (drB l a2) [.ref 0 0, .i 16] 1 (drB l a3) (.i w)) (by':Int) (nm:List UInt8) (hc:w = 9):∃ (L2:List Stm) (b:Nat),GCall Tryz.prog 12 1 (drB l a) [.ref 0 0,sA s, .i by', .str nm] 1 (drB l b) (.sl 21 (L2.map stmL)):=by
 refine ⟨L.set k ⟨x.name,x.out,(.mk x.x.op x.x.num x.x.name x.x.col x.x.cols x.x.dims x.x.cnd (condS l s 1 a3).1 x.x.kids)⟩,(condS l s 1 a3).2,?_⟩
 have hcd:=cond_draw l s hd hl 1 a3 (by omega)
 generalize condS l s 1 a3 = Cd at *
 obtain ⟨cd,a4⟩:=Cd
 dsimp only at hcd ⊢
 have hxs:(L.map stmL)[k]? = some (stmL x):=by rw [List.getElem?_map,hx];rfl
 have hX:(L.map stmL).set k (spliceA (stmL x) 14 (cndX cd)) = (L.set k ⟨x.name,x.out,(.mk x.x.op x.x.num x.x.name x.x.col x.x.cols x.x.dims x.x.cnd cd x.x.kids)⟩).map stmL:=setR rfl
 refine gci Tryz.func12 162 fun E h0=>?_
 repeat' ((first | (refine each_knownm (x:=x) hx (by omega) ?_) | (refine aops_store_eltA hxs rfl rfl rfl ?_ ?_ ?_ ?_ ?_ rfl ?_;exact trivial;exact ⟨.v rfl, .v rfl, .v rfl, .v rfl, .v rfl, .sl _ _,trivial⟩;rfl;rfl;decide) |refine aops_go ?_|refine S1 ?_|refine Z1 ?_|refine Z2 ?_|(refine And.intro ?_ ?_<;>intro h<;>try first|(exfalso;omega)|exact absurd rfl h)|refine Z3 ?_|refine Z4 ?_|intro el hel hbB|intro el hel|intro ex|refine Z5 ?_|(refine free_i ?_ ?_;exact ⟨by kernel_rfl,by decide⟩)|refine allI_c ?_ ?_|exact allI_n|refine allMP_c ?_ ?_|exact allMP_n|(refine many_step ?_ ?_ ?_;kernel_rfl;kernel_rfl) | refine nc [0] [0] hpro rfl rfl rfl ⟨rfl,trivial⟩ ?_ | refine nc [0] [0] hk rfl rfl rfl ⟨rfl,trivial⟩ ?_ | refine nc [0] [0] hw rfl rfl rfl ⟨rfl,trivial⟩ ?_ | refine nc [0] [0] hcd rfl rfl rfl ⟨rfl,trivial⟩ ?_) <;> (try (conv=>whnf)))
 all_goals first
  | exact retg_tmp (le_of h0 rfl ⟨congrArg (fun z=>some (AV.sl 21 z)) hX,trivial⟩ ⟨rfl,trivial⟩ rfl rfl rfl)
  | (exfalso;omega)
set_option maxHeartbeats 16000000 in
theorem spo16_10 (l:List UInt8) (s:Sch) (hd:Drawn s) (hl:l.length ≤ 400) (a a1 a2 a3:Nat) (L:List Stm) (hLl:L.length ≤ 30) (hpro:GCall Tryz.prog 16 1 (drB l a) [.ref 0 0,sA s, .i 4] 2 [(0,drX l a1),(1,some (.row stmT 21 0 (L.map stmL)))] (.row 1 0 L.length)) (k:Nat) (hkl:k < L.length) (hk:GCall Tryz.prog 28 1 (drB l a1) [.ref 0 0, .i L.length] 1 (drB l a2) (.i k)) (x:Stm) (hx:L[k]? = some x) (hcl:x.x.cols.length ≤ 10 ∧ x.x.dims.length ≤ 10 ∧ x.x.kids.length ≤ 10) (w:Nat) (hw:GCall Tryz.prog 28 1 (drB l a2) [.ref 0 0, .i 16] 1 (drB l a3) (.i w)) (by':Int) (nm:List UInt8) (hc:w = 10):∃ (L2:List Stm) (b:Nat),GCall Tryz.prog 12 1 (drB l a) [.ref 0 0,sA s, .i by', .str nm] 1 (drB l b) (.sl 21 (L2.map stmL)):=by
 refine ⟨L.set k ⟨x.name,x.out,(.mk x.x.op x.x.num x.x.name x.x.col x.x.cols x.x.dims x.x.cnd x.x.evt (x.x.kids ++ [x.x]))⟩,a3,?_⟩
 have hV:(AV.sl 19 (([] ++ x.x.kids.map xprL) ++ [xprX x.x])) = .sl 19 ((x.x.kids ++ [x.x]).map xprL):=by rw [List.map_append,List.nil_append, ← xprX_eq];rfl
 have hX:(L.map stmL).set k ((stmL x).set 20 (.sl 19 (([] ++ x.x.kids.map xprL) ++ [xprX x.x]))) = (L.set k ⟨x.name,x.out,(.mk x.x.op x.x.num x.x.name x.x.col x.x.cols x.x.dims x.x.cnd x.x.evt (x.x.kids ++ [x.x]))⟩).map stmL:=by
  rw [hV];exact setR rfl
 have hxs:(L.map stmL)[k]? = some (stmL x):=by rw [List.getElem?_map,hx];rfl
 have hln:(List.map xprL x.x.kids).length ≤ 10:=by rw [List.length_map];omega
 have him:∀ el ∈ List.map xprL x.x.kids,∀ u ∈ el,imOne u:=fun el hel=>ims_map (fun e=>by rw [xprX_eq];rfl) el hel
 refine gci Tryz.func12 162 fun E h0=>?_
 repeat' ((first | (refine each_knownm (x:=x) hx (by omega) ?_) | (refine side_i ?_ ?_;exact him) | (refine aops_load_eltO hxs rfl rfl rfl ?_ ?_;decide) | (refine draw_id 25 ?_;refine draw_e (id:=25) ⟨[(9, .row 2 0 L.length)],3,[(0,drX l a3),(2,some (.row stmT 21 0 ((L.set k ⟨x.name,x.out,(.mk x.x.op x.x.num x.x.name x.x.col x.x.cols x.x.dims x.x.cnd x.x.evt (x.x.kids ++ [x.x]))⟩).map stmL)))]⟩ ?_ ?_) | refine aany_frz 123 rfl ?_ |refine aops_go ?_|refine S1 ?_|refine Z1 ?_|refine Z2 ?_|(refine And.intro ?_ ?_<;>intro h<;>try first|(exfalso;omega)|exact absurd rfl h)|refine Z3 ?_|refine Z4 ?_|intro el hel hbB|intro el hel|intro ex|refine Z5 ?_|(refine free_i ?_ ?_;exact ⟨by kernel_rfl,by decide⟩)|refine allI_c ?_ ?_|exact allI_n|refine allMP_c ?_ ?_|exact allMP_n|(refine many_step ?_ ?_ ?_;kernel_rfl;kernel_rfl) | refine nc [0] [0] hpro rfl rfl rfl ⟨rfl,trivial⟩ ?_ | refine nc [0] [0] hk rfl rfl rfl ⟨rfl,trivial⟩ ?_ | refine nc [0] [0] hw rfl rfl rfl ⟨rfl,trivial⟩ ?_) <;> (try (conv=>whnf)))
 all_goals first
  | exact le_of h0 rfl ⟨rfl,trivial⟩ ⟨rfl,⟨_,congrArg (Blk.row stmT 21 _) hX.symm⟩,trivial⟩ rfl rfl rfl
  | exact retg_tmp (le_of h0 rfl ⟨rfl,trivial⟩ ⟨rfl,trivial⟩ rfl rfl rfl)
  | (exfalso;omega)
set_option maxHeartbeats 16000000 in
theorem spo16_11 (l:List UInt8) (s:Sch) (hd:Drawn s) (hl:l.length ≤ 400) (a a1 a2 a3:Nat) (L:List Stm) (hLl:L.length ≤ 30) (hpro:GCall Tryz.prog 16 1 (drB l a) [.ref 0 0,sA s, .i 4] 2 [(0,drX l a1),(1,some (.row stmT 21 0 (L.map stmL)))] (.row 1 0 L.length)) (k:Nat) (hkl:k < L.length) (hk:GCall Tryz.prog 28 1 (drB l a1) [.ref 0 0, .i L.length] 1 (drB l a2) (.i k)) (x:Stm) (hx:L[k]? = some x) (hcl:x.x.cols.length ≤ 10 ∧ x.x.dims.length ≤ 10 ∧ x.x.kids.length ≤ 10) (w:Nat) (hw:GCall Tryz.prog 28 1 (drB l a2) [.ref 0 0, .i 16] 1 (drB l a3) (.i w)) (by':Int) (nm:List UInt8) (hc:w = 11) (x0:Stm) (hx0:L[0]? = some x0):∃ (L2:List Stm) (b:Nat),GCall Tryz.prog 12 1 (drB l a) [.ref 0 0,sA s, .i by', .str nm] 1 (drB l b) (.sl 21 (L2.map stmL)):=by
 refine ⟨L ++ [x0],a3,?_⟩
 have hX:L.map stmL ++ [stmL x0] = (L ++ [x0]).map stmL:=by rw [List.map_append];rfl
 refine gci Tryz.func12 162 fun E h0=>?_
 repeat' ((first | (refine each_knownm (x:=x) hx (by omega) ?_) | (refine each_knownm (x:=x0) hx0 (by omega) ?_) |refine aops_go ?_|refine S1 ?_|refine Z1 ?_|refine Z2 ?_|(refine And.intro ?_ ?_<;>intro h<;>try first|(exfalso;omega)|exact absurd rfl h)|refine Z3 ?_|refine Z4 ?_|intro el hel hbB|intro el hel|intro ex|refine Z5 ?_|(refine free_i ?_ ?_;exact ⟨by kernel_rfl,by decide⟩)|refine allI_c ?_ ?_|exact allI_n|refine allMP_c ?_ ?_|exact allMP_n|(refine many_step ?_ ?_ ?_;kernel_rfl;kernel_rfl) | refine nc [0] [0] hpro rfl rfl rfl ⟨rfl,trivial⟩ ?_ | refine nc [0] [0] hk rfl rfl rfl ⟨rfl,trivial⟩ ?_ | refine nc [0] [0] hw rfl rfl rfl ⟨rfl,trivial⟩ ?_) <;> (try (conv=>whnf)))
 all_goals first
  | exact retg_tmp (le_of h0 rfl ⟨congrArg (fun z=>some (AV.sl 21 z)) hX,trivial⟩ ⟨rfl,trivial⟩ rfl rfl rfl)
  | (exfalso;omega)
set_option maxHeartbeats 16000000 in
theorem spo16_13 (l:List UInt8) (s:Sch) (hd:Drawn s) (hl:l.length ≤ 400) (a a1 a2 a3:Nat) (L:List Stm) (hLl:L.length ≤ 30) (hpro:GCall Tryz.prog 16 1 (drB l a) [.ref 0 0,sA s, .i 4] 2 [(0,drX l a1),(1,some (.row stmT 21 0 (L.map stmL)))] (.row 1 0 L.length)) (k:Nat) (hkl:k < L.length) (hk:GCall Tryz.prog 28 1 (drB l a1) [.ref 0 0, .i L.length] 1 (drB l a2) (.i k)) (x:Stm) (hx:L[k]? = some x) (hcl:x.x.cols.length ≤ 10 ∧ x.x.dims.length ≤ 10 ∧ x.x.kids.length ≤ 10) (w:Nat) (hw:GCall Tryz.prog 28 1 (drB l a2) [.ref 0 0, .i 16] 1 (drB l a3) (.i w)) (by':Int) (nm:List UInt8) (hc:w = 13):∃ (L2:List Stm) (b:Nat),GCall Tryz.prog 12 1 (drB l a) [.ref 0 0,sA s, .i by', .str nm] 1 (drB l b) (.sl 21 (L2.map stmL)):=by
 refine ⟨L.set k ⟨x.name,x.out, .mk 2 0 nm 0 [] [] zC zC []⟩,a3,?_⟩
 have hxs:(L.map stmL)[k]? = some (stmL x):=by rw [List.getElem?_map,hx];rfl
 have hN:NLss ((L.map stmL).set k (.str x.name :: .b x.out :: [.i 2, .i 0, .str nm, .i 0,nilP,nilP, .i 0, .i 0, .i 0, .i 0, .i 0,nilP, .i 0, .i 0, .i 0, .i 0, .i 0,nilP,nilP])) ((L.set k ⟨x.name,x.out, .mk 2 0 nm 0 [] [] zC zC []⟩).map stmL):=nlss_setR ⟨.refl _, .refl _, .refl _, .refl _, .refl _, .refl _, .nil 1, .nil 2, .refl _, .refl _, .refl _, .refl _, .refl _, .nil 6, .refl _, .refl _, .refl _, .refl _, .refl _, .nil 6, .nil 19,trivial⟩
 refine gci Tryz.func12 162 fun E h0=>?_
 repeat' ((first | (refine each_knownm (x:=x) hx (by omega) ?_) | (refine aops_store_eltA hxs rfl rfl rfl ?_ ?_ ?_ ?_ ?_ rfl ?_;exact trivial;exact ⟨.v rfl, .v rfl, .str _, .v rfl, .v rfl, .v rfl, .v rfl, .v rfl, .v rfl, .v rfl, .v rfl, .v rfl, .v rfl, .v rfl, .v rfl, .v rfl, .v rfl, .v rfl, .v rfl,trivial⟩;rfl;rfl;decide) |refine aops_go ?_|refine S1 ?_|refine Z1 ?_|refine Z2 ?_|(refine And.intro ?_ ?_<;>intro h<;>try first|(exfalso;omega)|exact absurd rfl h)|refine Z3 ?_|refine Z4 ?_|intro el hel hbB|intro el hel|intro ex|refine Z5 ?_|(refine free_i ?_ ?_;exact ⟨by kernel_rfl,by decide⟩)|refine allI_c ?_ ?_|exact allI_n|refine allMP_c ?_ ?_|exact allMP_n|(refine many_step ?_ ?_ ?_;kernel_rfl;kernel_rfl) | refine nc [0] [0] hpro rfl rfl rfl ⟨rfl,trivial⟩ ?_ | refine nc [0] [0] hk rfl rfl rfl ⟨rfl,trivial⟩ ?_ | refine nc [0] [0] hw rfl rfl rfl ⟨rfl,trivial⟩ ?_) <;> (try (conv=>whnf)))
 all_goals first
  | exact retg_tmp (le_trans (le_nl 2 ((L.set k ⟨x.name,x.out, .mk 2 0 nm 0 [] [] zC zC []⟩).map stmL) rfl hN) (le_of h0 rfl ⟨rfl,trivial⟩ ⟨rfl,trivial⟩ rfl rfl rfl))
  | (exfalso;omega)
set_option maxHeartbeats 16000000 in
theorem spo16_no (l:List UInt8) (s:Sch) (hd:Drawn s) (hl:l.length ≤ 400) (a a1 a2 a3:Nat) (L:List Stm) (hLl:L.length ≤ 30) (hpro:GCall Tryz.prog 16 1 (drB l a) [.ref 0 0,sA s, .i 4] 2 [(0,drX l a1),(1,some (.row stmT 21 0 (L.map stmL)))] (.row 1 0 L.length)) (k:Nat) (hkl:k < L.length) (hk:GCall Tryz.prog 28 1 (drB l a1) [.ref 0 0, .i L.length] 1 (drB l a2) (.i k)) (x:Stm) (hx:L[k]? = some x) (hcl:x.x.cols.length ≤ 10 ∧ x.x.dims.length ≤ 10 ∧ x.x.kids.length ≤ 10) (w:Nat) (hw:GCall Tryz.prog 28 1 (drB l a2) [.ref 0 0, .i 16] 1 (drB l a3) (.i w)) (by':Int) (nm:List UInt8) (hc:w = 0 ∨ 14 ≤ w):∃ (L2:List Stm) (b:Nat),GCall Tryz.prog 12 1 (drB l a) [.ref 0 0,sA s, .i by', .str nm] 1 (drB l b) (.sl 21 (L2.map stmL)):=by
 refine ⟨L,a3,?_⟩
 refine gci Tryz.func12 162 fun E h0=>?_
 repeat' ((first | (refine each_knownm (x:=x) hx (by omega) ?_) |refine aops_go ?_|refine S1 ?_|refine Z1 ?_|refine Z2 ?_|(refine And.intro ?_ ?_<;>intro h<;>try first|(exfalso;omega)|exact absurd rfl h)|refine Z3 ?_|refine Z4 ?_|intro el hel hbB|intro el hel|intro ex|refine Z5 ?_|(refine free_i ?_ ?_;exact ⟨by kernel_rfl,by decide⟩)|refine allI_c ?_ ?_|exact allI_n|refine allMP_c ?_ ?_|exact allMP_n|(refine many_step ?_ ?_ ?_;kernel_rfl;kernel_rfl) | refine nc [0] [0] hpro rfl rfl rfl ⟨rfl,trivial⟩ ?_ | refine nc [0] [0] hk rfl rfl rfl ⟨rfl,trivial⟩ ?_ | refine nc [0] [0] hw rfl rfl rfl ⟨rfl,trivial⟩ ?_) <;> (try (conv=>whnf)))
 all_goals first
  | exact retg_tmp (le_of h0 rfl ⟨rfl,trivial⟩ ⟨rfl,trivial⟩ rfl rfl rfl)
  | (exfalso;omega)
def wrapN (e:Xpr):Nat → Xpr
 | 0=>e
 | n + 1=>wrapN (.mk 6 0 [] 0 [] [] zC zC [e, .mk 1 ((n + 1:Nat):Int) [] 0 [] [] zC zC []]) n
theorem set_self {L:List Stm} {k:Nat} {x:Stm} (h:L[k]? = some x):L.set k ⟨x.name,x.out,x.x⟩ = L:=by
 apply List.ext_getElem?
 intro j
 rw [List.getElem?_set]
 by_cases e:k = j
 ·subst e
  rw [if_pos rfl,if_pos (List.getElem?_eq_some_iff.1 h).1,h]
 ·rw [if_neg e]
set_option maxHeartbeats 16000000 in
theorem spo16_12 (l:List UInt8) (s:Sch) (hd:Drawn s) (hl:l.length ≤ 400) (a a1 a2 a3:Nat) (L:List Stm) (hLl:L.length ≤ 30) (hpro:GCall Tryz.prog 16 1 (drB l a) [.ref 0 0,sA s, .i 4] 2 [(0,drX l a1),(1,some (.row stmT 21 0 (L.map stmL)))] (.row 1 0 L.length)) (k:Nat) (hkl:k < L.length) (hk:GCall Tryz.prog 28 1 (drB l a1) [.ref 0 0, .i L.length] 1 (drB l a2) (.i k)) (x:Stm) (hx:L[k]? = some x) (hcl:x.x.cols.length ≤ 10 ∧ x.x.dims.length ≤ 10 ∧ x.x.kids.length ≤ 10) (w:Nat) (hw:GCall Tryz.prog 28 1 (drB l a2) [.ref 0 0, .i 16] 1 (drB l a3) (.i w)) (by':Int) (nm:List UInt8) (hc:w = 12) (m a4:Nat) (hm:m < 14) (hn:GCall Tryz.prog 28 1 (drB l a3) [.ref 0 0, .i 14] 1 (drB l a4) (.i m)):∃ (L2:List Stm) (b:Nat),GCall Tryz.prog 12 1 (drB l a) [.ref 0 0,sA s, .i by', .str nm] 1 (drB l b) (.sl 21 (L2.map stmL)):=by
 refine ⟨L.set k ⟨x.name,x.out,wrapN x.x m⟩,a4,?_⟩
 generalize hZ:wrapN x.x m = Z
 have hself:=set_self hx
 refine gci Tryz.func12 162 fun E h0=>?_
 repeat' ((first | (refine each_knownm (x:=x) hx (by omega) ?_) |refine aops_go ?_|refine S1 ?_|refine Z1 ?_|refine Z2 ?_|(refine And.intro ?_ ?_<;>intro h<;>try first|(exfalso;omega)|exact absurd rfl h)|refine Z3 ?_|refine Z4 ?_|intro el hel hbB|intro el hel|intro ex|refine Z5 ?_|(refine free_i ?_ ?_;exact ⟨by kernel_rfl,by decide⟩)|refine allI_c ?_ ?_|exact allI_n|refine allMP_c ?_ ?_|exact allMP_n|(refine many_step ?_ ?_ ?_;kernel_rfl;kernel_rfl) | refine nc [0] [0] hpro rfl rfl rfl ⟨rfl,trivial⟩ ?_ | refine nc [0] [0] hk rfl rfl rfl ⟨rfl,trivial⟩ ?_ | refine nc [0] [0] hw rfl rfl rfl ⟨rfl,trivial⟩ ?_ | refine nc [0] [0] hn rfl rfl rfl ⟨rfl,trivial⟩ ?_) <;> (try (conv=>whnf)))
 all_goals first
  | (exfalso;omega)
  | skip
 refine loop_i (ι:=Xpr × Nat) (fun z=>⟨[(9, .row 2 0 L.length),(10, .elt 2 0 k 0),(11, .i z.2)],3,[(0,drX l a4),(2,some (.row stmT 21 0 ((L.set k ⟨x.name,x.out,z.1⟩).map stmL)))]⟩) (fun z=>z.2 < 14 ∧ wrapN z.1 z.2 = Z) (fun z=>z.2) (x.x,m) ⟨hm,hZ⟩
  (le_of h0 rfl ⟨rfl,rfl,rfl,trivial⟩ ⟨rfl,⟨_,congrArg (fun z:List Stm=>Blk.row stmT 21 _ (z.map stmL)) hself⟩,trivial⟩ rfl rfl rfl) (fun z hI=>?_)
 obtain ⟨e,n⟩:=z
 obtain ⟨hn14,hI⟩:=hI
 dsimp only at hn14 hI ⊢
 rcases n with _ | n
 ·rw [wrapN] at hI
  subst hI
  repeat' ((first|refine aops_go ?_|refine S1 ?_|refine Z1 ?_|refine Z2 ?_|(refine And.intro ?_ ?_<;>intro h<;>try first|(exfalso;omega)|exact absurd rfl h)|refine Z3 ?_|refine Z4 ?_|intro el hel hbB|intro el hel|intro ex|refine Z5 ?_|(refine free_i ?_ ?_;exact ⟨by kernel_rfl,by decide⟩)|refine allI_c ?_ ?_|exact allI_n|refine allMP_c ?_ ?_|exact allMP_n|(refine many_step ?_ ?_ ?_;kernel_rfl;kernel_rfl)) <;> (try (conv=>whnf)))
  all_goals first
   | exact retg_tmp (le_of h0 rfl ⟨rfl,trivial⟩ ⟨rfl,trivial⟩ rfl rfl rfl)
   | (exfalso;omega)
 ·rw [wrapN] at hI
  have hgk:(L.set k ⟨x.name,x.out,e⟩)[k]? = some ⟨x.name,x.out,e⟩:=by rw [List.getElem?_set,if_pos rfl,if_pos hkl]
  have hxs:((L.set k ⟨x.name,x.out,e⟩).map stmL)[k]? = some (stmL ⟨x.name,x.out,e⟩):=by rw [List.getElem?_map,hgk];rfl
  have hN:NLss (((L.set k ⟨x.name,x.out,e⟩).map stmL).set k (.str x.name :: .b x.out :: [.i 6, .i 0, .str [], .i 0,nilP,nilP, .i 0, .i 0, .i 0, .i 0, .i 0,nilP, .i 0, .i 0, .i 0, .i 0, .i 0,nilP, .sl 19 [xprX e,[.i 1, .i ((n + 1:Nat):Int), .str [], .i 0,nilP,nilP, .i 0, .i 0, .i 0, .i 0, .i 0,nilP, .i 0, .i 0, .i 0, .i 0, .i 0,nilP,nilP]]])) ((L.set k ⟨x.name,x.out, .mk 6 0 [] 0 [] [] zC zC [e, .mk 1 ((n + 1:Nat):Int) [] 0 [] [] zC zC []]⟩).map stmL):=by
   have h1:=nlss_setR (L:=L.set k ⟨x.name,x.out,e⟩) (k:=k) (C:=(.str x.name :: .b x.out :: [.i 6, .i 0, .str [], .i 0,nilP,nilP, .i 0, .i 0, .i 0, .i 0, .i 0,nilP, .i 0, .i 0, .i 0, .i 0, .i 0,nilP, .sl 19 [xprX e,[.i 1, .i ((n + 1:Nat):Int), .str [], .i 0,nilP,nilP, .i 0, .i 0, .i 0, .i 0, .i 0,nilP, .i 0, .i 0, .i 0, .i 0, .i 0,nilP,nilP]]])) (x:=⟨x.name,x.out, .mk 6 0 [] 0 [] [] zC zC [e, .mk 1 ((n + 1:Nat):Int) [] 0 [] [] zC zC []]⟩) (by
    refine ⟨.refl _, .refl _, .refl _, .refl _, .refl _, .refl _, .nil 1, .nil 2, .refl _, .refl _, .refl _, .refl _, .refl _, .nil 6, .refl _, .refl _, .refl _, .refl _, .refl _, .nil 6,?_,trivial⟩
    show NL _ (.sl 19 [xprL e,xprL _])
    rw [xprX_eq,xprX_eq]
    exact nl_sl ⟨NLs.refl _,⟨.refl _, .refl _, .refl _, .refl _, .nil 1, .nil 2, .refl _, .refl _, .refl _, .refl _, .refl _, .nil 6, .refl _, .refl _, .refl _, .refl _, .refl _, .nil 6, .nil 19,trivial⟩,trivial⟩)
   rwa [List.set_set] at h1
  repeat' ((first | (refine each_knownm (x:=⟨x.name,x.out,e⟩) hgk (by omega) ?_) | (refine aops_load_eltO hxs rfl rfl rfl ?_ ?_;decide) | (refine aops_store_eltA hxs rfl rfl rfl ?_ ?_ ?_ ?_ ?_ rfl ?_;exact trivial;exact ⟨.v rfl, .v rfl, .str _, .v rfl, .v rfl, .v rfl, .v rfl, .v rfl, .v rfl, .v rfl, .v rfl, .v rfl, .v rfl, .v rfl, .v rfl, .v rfl, .v rfl, .v rfl, .sl _ _,trivial⟩ ;rfl;rfl;decide) |refine aops_go ?_|refine S1 ?_|refine Z1 ?_|refine Z2 ?_|(refine And.intro ?_ ?_<;>intro h<;>try first|(exfalso;omega)|exact absurd rfl h)|refine Z3 ?_|refine Z4 ?_|intro el hel hbB|intro el hel|intro ex|refine Z5 ?_|(refine free_i ?_ ?_;exact ⟨by kernel_rfl,by decide⟩)|refine allI_c ?_ ?_|exact allI_n|refine allMP_c ?_ ?_|exact allMP_n|(refine many_step ?_ ?_ ?_;kernel_rfl;kernel_rfl)) <;> (try (conv=>whnf)))
  all_goals first
   | exact ⟨(_,n),⟨by dsimp only;omega,hI⟩,by dsimp only;omega,le_trans (le_nl 2 _ rfl hN) (le_of h0 rfl ⟨rfl,rfl,congrArg (fun z:Int=>some (AV.i z)) (by omega),trivial⟩ ⟨rfl,⟨_,rfl⟩,trivial⟩ rfl rfl rfl)⟩
   | (exfalso;omega)
end Go.Proofs.YtjmbhlgocikfiaaGreatDoor
