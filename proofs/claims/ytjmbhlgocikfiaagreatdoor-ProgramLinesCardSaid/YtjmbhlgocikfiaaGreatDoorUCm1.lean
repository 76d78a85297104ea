/- Chapter 5: right conditions in parts, truth values out of those of their parts. -/
import Derived.Test.YtjmbhlgocikfiaaGreatDoorUCe1
set_option linter.unusedVariables false
set_option linter.unnecessarySimpa false
set_option linter.unusedSimpArgs false
namespace Go.Proofs.YtjmbhlgocikfiaaGreatDoor
open Go Go.Av
attribute [local irreducible] AWp AOps AAny MAny DQ retQ retG St.le FCall GCall
set_option maxRecDepth 100000
theorem conE_parts {s:Sch} {c:Cnd} (h:conE s c = 0):(1 ≤ c.op ∧ c.op ≤ 7) ∧ (c.kids.length:Int) = kidN c.op ∧ (c.op = 2 ∨ c.op = 3 ∨ c.op = 4 → 0 ≤ c.col ∧ c.col < s.cols.length) ∧ (c.op = 2 → (colAt s c.col).kind = 2 ∧ 0 ≤ c.code ∧ c.code < (lstOf s (colAt s c.col)).2.length) ∧ (c.op = 3 → (colAt s c.col).kind = 3 ∧ c.lo ≤ c.hi ∧ -1000000 ≤ c.lo ∧ c.hi ≤ 1000000) ∧ (c.op = 4 → (colAt s c.col).kind = 3 ∧ (colAt s c.col).opt = true):=by
 unfold conE at h
 by_cases h1:c.op < 1 ∨ 7 < c.op
 ·rw [if_pos h1] at h;cases h
 rw [if_neg h1] at h
 split at h
 ·cases h
 rename_i h2
 by_cases h3:c.op ≠ 2 ∧ c.op ≠ 3 ∧ c.op ≠ 4
 ·exact ⟨by omega,by omega,fun _=>by omega,fun _=>by omega,fun _=>by omega,fun _=>by omega⟩
 rw [if_neg h3] at h
 by_cases h4:c.col < 0 ∨ (s.cols.length:Int) ≤ c.col
 ·rw [if_pos h4] at h;cases h
 rw [if_neg h4] at h
 by_cases h5:c.op = 2
 ·rw [if_pos h5] at h
  split at h
  ·cases h
  split at h
  ·cases h
  exact ⟨by omega,by omega,fun _=>by omega,fun _=>by omega,fun _=>by omega,fun _=>by omega⟩
 rw [if_neg h5] at h
 by_cases h6:c.op = 3
 ·rw [if_pos h6] at h
  split at h
  ·cases h
  split at h
  ·cases h
  exact ⟨by omega,by omega,fun _=>by omega,fun _=>by omega,fun _=>by omega,fun _=>by omega⟩
 rw [if_neg h6] at h
 split at h
 ·cases h
 rename_i h7
 refine ⟨by omega,by omega,fun _=>by omega,fun _=>by omega,fun _=>by omega,fun _=>⟨?_,?_⟩⟩
 ·exact Decidable.of_not_not fun hh=>h7 (.inl hh)
 ·cases ho:(colAt s c.col).opt
  ·exact absurd (.inr ho) h7
  ·rfl
theorem chkL_all {s:Sch}:∀ {l:List Cnd},chkL s l = 0 → ∀ k ∈ l,chkS s k = 0
 | [],_,k,hk=>by cases hk
 | x :: r,h,k,hk=>by
  unfold chkL at h
  by_cases hx:chkS s x = 0
  ·rw [if_pos hx] at h
   rcases List.mem_cons.1 hk with rfl | hk
   ·exact hx
   ·exact chkL_all h k hk
  ·rw [if_neg hx] at h;exact absurd h hx
theorem chkS_parts {s:Sch} {c:Cnd} (h:chkS s c = 0):conE s c = 0 ∧ ∀ k ∈ c.kids,chkS s k = 0:=by
 rw [chkS_eq] at h
 by_cases h1:conE s c = 0
 ·rw [if_pos h1] at h
  exact ⟨h1,chkL_all h⟩
 ·rw [if_neg h1] at h;exact absurd h h1
theorem cndE_parts {s:Sch} {c:Cnd} (h:cndE s c = 0):schE s = 0 ∧ totS c ≤ 40 ∧ depS c ≤ 10 ∧ chkS s c = 0:=by
 unfold cndE at h
 by_cases h1:schE s = 0
 ·rw [if_pos h1] at h
  split at h
  ·cases h
  split at h
  ·cases h
  exact ⟨h1,by omega,by omega,h⟩
 ·rw [if_neg h1] at h;exact absurd h h1
def joinS (op:Int) (vs:List Int) (one:Int):Int:=if op = 1 then 1 else if op = 5 then min (vs.getD 0 0) (vs.getD 1 0) else if op = 6 then max (vs.getD 0 0) (vs.getD 1 0) else if op = 7 then -(vs.getD 0 0) else one
mutual
def telS (g:Cnd → Int):Cnd → Int
 | .mk o c k l h ks=>joinS o (telL g ks) (g (.mk o c k l h ks))
def telL (g:Cnd → Int):List Cnd → List Int
 | []=>[]
 | x :: r=>telS g x :: telL g r
end
end Go.Proofs.YtjmbhlgocikfiaaGreatDoor
