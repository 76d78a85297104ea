/- Chapter 3: what a line leaves of the reader's size (plain); words that are looked for. -/
import Derived.Test.YtiphlhoclaogjabGreatDoorQSp8
import Derived.Test.YtiphlhoclaogjabGreatDoorQXt2
import Derived.Lib.Join
import Derived.Lib.IndexMore
import Derived.Lib.IndexBytes
set_option linter.unusedVariables false
set_option linter.unnecessarySimpa false
set_option linter.unusedSimpArgs false
namespace Go.Proofs.YtiphlhoclaogjabGreatDoor
open Go Go.Av
attribute [local irreducible] D6 B8 D8 D7 DQ E0 E1 St.le B4 B9
set_option maxRecDepth 100000
def Y6 (r:F5):Nat:=r.lists.length + (r.lists.map fun l=>l.2.length).sum + r.cols.length + r.rows.length
theorem Jy (r:F5):r.lists.length ≤ Y6 r ∧ r.cols.length ≤ Y6 r ∧ r.rows.length ≤ Y6 r ∧ ∀ l ∈ r.lists,l.2.length ≤ Y6 r:=by
 have key:∀ (ls:List CL),∀ l ∈ ls,l.2.length ≤ (ls.map fun l=>l.2.length).sum:=fun ls=>by
  induction ls with
  | nil=>intro l hl;cases hl
  | cons x r ih =>
    intro l hl
    rw [List.map_cons,List.sum_cons]
    rcases List.mem_cons.1 hl with rfl | h
    ·omega
    ·have:=ih l h;omega
 unfold Y6
 refine ⟨by omega,by omega,by omega,fun l hl=>?_⟩
 have:=key r.lists l hl
 omega
theorem u4 (X:List CL) (l:CL):((X ++ [l]).map fun l=>l.2.length).sum = (X.map fun l=>l.2.length).sum + l.2.length:=by
 rw [List.map_append,List.sum_append];simp
theorem Dt (r:F5) (w:List (List UInt8)):Y6 (L5 r w).1 ≤ Y6 r + 1:=by
 unfold L5
 split
 ·unfold o9
  split
  ·exact Nat.le_succ _
  ·split
   ·split
    ·unfold Y6
     dsimp only
     rw [u4,List.length_append]
     simp only [List.length_nil,List.length_singleton];omega
    ·exact Nat.le_succ _
   ·split
    ·exact Nat.le_succ _
    ·rename_i h
     have hne:r.lists ≠ []:=fun g=>h (.inr g)
     obtain ⟨X,l,hX⟩:∃ X l,r.lists = X ++ [l]:=⟨r.lists.dropLast,r.lists.getLast hne,(List.dropLast_concat_getLast hne).symm⟩
     unfold Y6
     dsimp only
     rw [hX,CN,u4,u4]
     simp only [List.length_append,List.length_singleton];omega
 ·split
  ·unfold u3
   split
   ·exact Nat.le_succ _
   ·split
    ·unfold Y6;dsimp only;omega
    ·unfold Y6
     dsimp only
     rw [List.length_append,List.length_singleton];omega
  ·split
   ·unfold AX
    split
    ·exact Nat.le_succ _
    ·split
     ·unfold Y6
      dsimp only
      rw [List.length_append,List.length_singleton];omega
     ·unfold Y6;dsimp only;omega
   ·exact Nat.le_succ _
theorem Rr {r:F5} {w:List (List UInt8)} (hst:r.st = 0) (h:B6 w 0 = I8 ∨ B6 w 0 = W0):(L5 r w).1.st = 0:=by
 unfold L5
 rw [if_pos h]
 unfold o9
 repeat' split
 all_goals exact hst
theorem Jz {r:F5} {w:List (List UInt8)} (hl:B6 w 0 = I8 ∨ B6 w 0 = W0 → ¬ r.st = 0) (h:(L5 r w).2 = true):¬ (L5 r w).1.st = 0:=by
 unfold L5 at h ⊢
 by_cases h1:B6 w 0 = I8 ∨ B6 w 0 = W0
 ·rw [if_pos h1] at h
  unfold o9 at h
  rw [if_pos (hl h1)] at h
  cases h
 rw [if_neg h1] at h ⊢
 split
 ·rename_i h2
  rw [if_pos h2] at h
  unfold u3 at h ⊢
  split
  ·rename_i h3;rw [if_pos h3] at h;cases h
  ·split
   ·exact (by decide:¬ (1:Int) = 0)
   ·exact (by decide:¬ (1:Int) = 0)
 ·rename_i h2
  rw [if_neg h2] at h
  split
  ·rename_i h3
   rw [if_pos h3] at h
   unfold AX at h ⊢
   split
   ·rename_i h4;rw [if_pos h4] at h;cases h
   ·split
    ·exact (by decide:¬ (2:Int) = 0)
    ·exact (by decide:¬ (2:Int) = 0)
  ·rename_i h3
   rw [if_neg h3] at h
   cases h
set_option maxHeartbeats 4000000 in
theorem Pd (l:List (List UInt8)) (v:List UInt8):B4 Tryz.prog 67 [.sl 1 (l.map C1), .str v] (.i (I5 (fun x=>decide (x = v)) l 0)):=by
 refine F3 Tryz.func67 19 fun hrd E h0=>?_
 have hlen:l.length ≤ 9223372036854775807:=by
  have:=(hrd (.sl 1 (l.map C1)) (by simp)).sl
  simpa using this
 clear hrd
 repeat' ((first|refine A4 ?_|refine S1 ?_|refine Z1 ?_|refine Z2 ?_|(refine And.intro ?_ ?_<;>intro h<;>try first|(exfalso;omega)|exact absurd rfl h)|refine Z3 ?_|refine Z4 ?_|intro el hel hbB|intro el hel|intro ex|refine Z5 ?_|(refine A9 ?_ ?_;exact ⟨by kernel_rfl,by decide⟩)|refine A8 ?_ ?_|exact A7|refine A6 ?_ ?_|exact A5|(refine A0 ?_ ?_ ?_;kernel_rfl;kernel_rfl)) <;> (try (conv=>whnf)))
 refine C2 (ι:=Nat) (fun k=>⟨[(0, .sl 1 (l.map C1)),(1, .str v),(7, .i l.length),(8, .i k)],0,[]⟩) (fun k=>k ≤ l.length ∧ I5 (fun x=>decide (x = v)) l 0 = I5 (fun x=>decide (x = v)) (l.drop k) k) (fun k=>l.length - k) 0 ⟨Nat.zero_le _,rfl⟩
  (B0 h0 rfl ⟨rfl,rfl,rfl,rfl,trivial⟩ trivial rfl rfl rfl) (fun k hI=>?_)
 obtain ⟨hk,hI⟩:=hI
 repeat' ((first | (refine E3 ?_ ?_;kernel_rfl) |refine A4 ?_|refine S1 ?_|refine Z1 ?_|refine Z2 ?_|(refine And.intro ?_ ?_<;>intro h<;>try first|(exfalso;omega)|exact absurd rfl h)|refine Z3 ?_|refine Z4 ?_|intro el hel hbB|intro el hel|intro ex|refine Z5 ?_|(refine A9 ?_ ?_;exact ⟨by kernel_rfl,by decide⟩)|refine A8 ?_ ?_|exact A7|refine A6 ?_ ?_|exact A5|(refine A0 ?_ ?_ ?_;kernel_rfl;kernel_rfl)) <;> (try (conv=>whnf)))
 all_goals first
  | exact ⟨k + 1,⟨by omega,by rw [hI,S3 hel,I5,if_neg (by rw [decide_eq_true_iff];exact fun e=>absurd e.symm (by assumption))];rfl⟩,by omega,B0 h0 rfl ⟨rfl,rfl,rfl,rfl,trivial⟩ trivial rfl rfl rfl⟩
  | exact B5 rfl (congrArg AV.i (by rw [hI,S3 hel,I5,if_pos (by rw [decide_eq_true_iff];exact Eq.symm (by assumption))]))
  | exact B5 rfl (congrArg AV.i (by rw [hI,show k = l.length by omega,List.drop_length];rfl))
theorem KJ (l:List (List UInt8)) (v:List UInt8):B4 Tryz.prog 39 [.sl 1 (l.map C1), .str v] (.b (decide (v ∈ l))):=by
 have h:=Pd l v
 have e:decide (v ∈ l) = decide (0 ≤ I5 (fun x=>decide (x = v)) l 0):=by
  rw [AN _ l 0 (by omega)]
  cases hb:l.any (fun x=>decide (x = v)) with
  | true =>
    obtain ⟨x,h1,h2⟩:=List.any_eq_true.1 hb
    rw [← of_decide_eq_true h2];exact decide_eq_true h1
  | false =>
    refine decide_eq_false fun hm=>?_
    have:=List.any_eq_false.1 hb v hm
    simp at this
 rw [e]
 generalize I5 (fun x=>decide (x = v)) l 0 = i at *
 refine F3 Tryz.func39 9 fun hrd E h0=>?_
 clear hrd
 repeat' ((first | refine B2 h ?_ |refine A4 ?_|refine S1 ?_|refine Z1 ?_|refine Z2 ?_|(refine And.intro ?_ ?_<;>intro h<;>try first|(exfalso;omega)|exact absurd rfl h)|refine Z3 ?_|refine Z4 ?_|intro el hel hbB|intro el hel|intro ex|refine Z5 ?_|(refine A9 ?_ ?_;exact ⟨by kernel_rfl,by decide⟩)|refine A8 ?_ ?_|exact A7|refine A6 ?_ ?_|exact A5|(refine A0 ?_ ?_ ?_;kernel_rfl;kernel_rfl)) <;> (try (conv=>whnf)))
 all_goals first
  | exact B5 rfl rfl
end Go.Proofs.YtiphlhoclaogjabGreatDoor
namespace Go.Proofs.YtiphlhoclaogjabGreatDoor
open Go Go.Av
attribute [local irreducible] D6 B8 D8 D7 DQ E0 E1 St.le B4 B9
set_option maxRecDepth 100000
theorem OE (c:UInt8):∀ s:List UInt8,Lib.cut s [c] = (s.takeWhile (D0 c),(s.dropWhile (D0 c)).drop 1,decide (s.dropWhile (D0 c) ≠ []))
 | []=>rfl
 | b :: r=>by
   have ih:=OE c r
   have hge:=Lib.index_ge r [c]
   by_cases h:b = c
   ·subst h
    have hi:Lib.index (b :: r) [b] = 0:=by unfold Lib.index;simp
    have hn:D0 b b = false:=by unfold D0;simp
    unfold Lib.cut
    rw [hi,if_pos (Int.le_refl 0),List.takeWhile_cons,List.dropWhile_cons,hn]
    simp
   ·have hn:D0 c b = true:=by unfold D0;simp [h]
    have hp:([c].isPrefixOf (b :: r)) = false:=by simp [List.isPrefixOf];exact fun e=>h e.symm
    have hi:Lib.index (b :: r) [c] = if Lib.index r [c] == -1 then -1 else Lib.index r [c] + 1:=by rw [Lib.index,hp];rfl
    rw [List.takeWhile_cons,List.dropWhile_cons,hn,if_pos rfl,if_pos rfl]
    unfold Lib.cut at ih ⊢
    by_cases h1:Lib.index r [c] = -1
    ·rw [h1,if_neg (by decide)] at ih
     obtain ⟨i1,i2⟩:=Prod.mk.inj ih
     obtain ⟨i2,i3⟩:=Prod.mk.inj i2
     have hi2:Lib.index (b :: r) [c] = -1:=by rw [hi,h1];rfl
     rw [hi2,if_neg (by decide), ← i1, ← i2, ← i3]
    ·rw [if_pos (by omega)] at ih
     obtain ⟨i1,i2⟩:=Prod.mk.inj ih
     obtain ⟨i2,i3⟩:=Prod.mk.inj i2
     have hb:(Lib.index r [c] == -1) = false:=beq_eq_false_iff_ne.2 h1
     have hi2:Lib.index (b :: r) [c] = Lib.index r [c] + 1:=by rw [hi,hb];rfl
     rw [hi2,if_pos (by omega), ← i1, ← i2, ← i3,show (Lib.index r [c] + 1).toNat = (Lib.index r [c]).toNat + 1 by omega,List.take_succ_cons,show (Lib.index r [c]).toNat + 1 + [c].length = ((Lib.index r [c]).toNat + [c].length) + 1 by omega,List.drop_succ_cons]
end Go.Proofs.YtiphlhoclaogjabGreatDoor
