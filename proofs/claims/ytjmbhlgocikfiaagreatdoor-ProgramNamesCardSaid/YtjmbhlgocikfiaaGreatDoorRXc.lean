/- What the library's Cut and Join make, in the words of chapter 16. -/
import Derived.Test.YtjmbhlgocikfiaaGreatDoorRXt0
import Derived.Lib.Join
import Derived.Lib.IndexMore
import Derived.Lib.IndexBytes
set_option linter.unusedVariables false
set_option linter.unnecessarySimpa false
set_option linter.unusedSimpArgs false
namespace Go.Proofs.YtjmbhlgocikfiaaGreatDoor
open Go Go.Av
attribute [local irreducible] AWp AOps AAny MAny DQ retQ retG St.le FCall GCall
set_option maxRecDepth 100000
theorem cut_one (c:UInt8):∀ s:List UInt8,Lib.cut s [c] = (s.takeWhile (notB c),(s.dropWhile (notB c)).drop 1,decide (s.dropWhile (notB c) ≠ []))
 | []=>rfl
 | b :: r=>by
  have ih:=cut_one c r
  have hge:=Lib.index_ge r [c]
  by_cases h:b = c
  ·subst h
   have hi:Lib.index (b :: r) [b] = 0:=by unfold Lib.index;simp
   have hn:notB b b = false:=by unfold notB;simp
   unfold Lib.cut
   rw [hi,if_pos (Int.le_refl 0),List.takeWhile_cons,List.dropWhile_cons,hn]
   simp
  ·have hn:notB c b = true:=by unfold notB;simp [h]
   have hp:([c].isPrefixOf (b :: r)) = false:=by simp [List.isPrefixOf];exact fun e=>h e.symm
   have hi:Lib.index (b :: r) [c] = if Lib.index r [c] == -1 then -1 else Lib.index r [c] + 1:=by rw [Lib.index,hp];rfl
   rw [List.takeWhile_cons,List.dropWhile_cons,hn,if_pos rfl,if_pos rfl]
   unfold Lib.cut at ih ⊢
   by_cases h1:Lib.index r [c] = -1
   ·rw [h1,if_neg (by decide)] at ih
    obtain ⟨i1,i2⟩:=Prod.mk.inj ih
    obtain ⟨i2,i3⟩:=Prod.mk.inj i2
    have hi2:Lib.index (b :: r) [c] = -1:=by rw [hi,h1];rfl
    rw [hi2,if_neg (by decide), ← i1, ← i2, ← i3]
   ·rw [if_pos (by omega)] at ih
    obtain ⟨i1,i2⟩:=Prod.mk.inj ih
    obtain ⟨i2,i3⟩:=Prod.mk.inj i2
    have hb:(Lib.index r [c] == -1) = false:=beq_eq_false_iff_ne.2 h1
    have hi2:Lib.index (b :: r) [c] = Lib.index r [c] + 1:=by rw [hi,hb];rfl
    rw [hi2,if_pos (by omega), ← i1, ← i2, ← i3,show (Lib.index r [c] + 1).toNat = (Lib.index r [c]).toNat + 1 by omega,List.take_succ_cons,show (Lib.index r [c]).toNat + 1 + [c].length = ((Lib.index r [c]).toNat + [c].length) + 1 by omega,List.drop_succ_cons]
theorem join_jnS (sep:List UInt8):∀ l:List (List UInt8),Lib.join l sep = jnS sep l
 | []=>rfl
 | [x]=>by rw [Lib.join_one];rfl
 | x :: y :: r=>by
  have ih:=join_jnS sep (y :: r)
  rw [Lib.join_cons] at ih ⊢
  unfold jnS
  rw [← ih]
  unfold Lib.joinTail
  rw [List.map_cons,List.flatten_cons,List.append_assoc,List.append_assoc]
theorem jnS_len (sep:List UInt8) (n:Nat):∀ l:List (List UInt8),(∀ x ∈ l,x.length ≤ n) → (jnS sep l).length ≤ l.length * (n + sep.length)
 | [],_=>by simp [jnS]
 | [x],h=>by
  have:=h x (by simp)
  show x.length ≤ 1 * (n + sep.length)
  omega
 | x :: y :: r,h=>by
  have ih:=jnS_len sep n (y :: r) (fun z hz=>h z (List.mem_cons_of_mem _ hz))
  have:=h x (by simp)
  unfold jnS
  rw [List.length_append,List.length_append,List.length_cons,Nat.add_mul,Nat.one_mul]
  omega
end Go.Proofs.YtjmbhlgocikfiaaGreatDoor
