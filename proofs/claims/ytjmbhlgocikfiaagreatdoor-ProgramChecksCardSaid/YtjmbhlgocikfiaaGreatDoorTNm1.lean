/- Numbers as texts: what is printed is read. -/
import Derived.Test.YtjmbhlgocikfiaaGreatDoorTC4
import Derived.Lib.ItoaNum
import Derived.Lib.AtoiAll
set_option linter.unusedVariables false
set_option linter.unnecessarySimpa false
set_option linter.unusedSimpArgs false
namespace Go.Proofs.YtjmbhlgocikfiaaGreatDoor
open Go Go.Av
attribute [local irreducible] AWp AOps AAny MAny DQ retQ retG St.le FCall GCall
set_option maxRecDepth 100000
theorem dig_nat:∀ d:Fin 10,(UInt8.ofNat (48 + d.val)).toNat = 48 + d.val:=by decide
theorem dig_n {d:Nat} (h:d < 10):(UInt8.ofNat (48 + d)).toNat = 48 + d:=dig_nat ⟨d,h⟩
def digB (c:UInt8):Bool:=decide (48 ≤ c.toNat ∧ c.toNat ≤ 57)
theorem digB_w {c:UInt8} (h:digB c = true):isW c = true:=by
 unfold digB at h
 unfold isW
 have:=of_decide_eq_true h
 exact decide_eq_true (.inr (.inl this))
def Stops (u:List UInt8):Prop:=∀ b r,u = b :: r → isW b = false
theorem cut_inv {w t:List UInt8} (h:(cutS w t).2 = true):t = w ++ (cutS w t).1:=by
 unfold cutS at h ⊢
 split
 ·rename_i hp
  rw [List.isPrefixOf_iff_prefix] at hp
  obtain ⟨v,rfl⟩:=hp
  dsimp only
  rw [List.drop_left]
 ·rename_i hp
  rw [if_neg hp] at h
  cases h
theorem cut_no {w t:List UInt8} (h:¬ (cutS w t).2 = true):cutS w t = (t,false):=by
 unfold cutS at h ⊢
 split
 ·rename_i hp
  rw [if_pos hp] at h
  exact absurd rfl h
 ·rfl
theorem tw_split (t:List UInt8):t.takeWhile isW ++ t.dropWhile isW = t:=List.takeWhile_append_dropWhile
theorem num_inv {t:List UInt8} (h:(numS t).2.1 = true):t = Lib.itoa (numS t).1 ++ (numS t).2.2:=by
 have hz:t = numZ t ++ (numS t).2.2:=by
  show t = numZ t ++ (cutS [45] t).1.dropWhile isW
  unfold numZ
  rw [List.append_assoc,tw_split]
  by_cases hc:(cutS [45] t).2 = true
  ·rw [if_pos hc];exact cut_inv hc
  ·rw [if_neg hc,cut_no hc];rfl
 have hv:Lib.itoa (numS t).1 = numZ t:=by
  have h':(numV (numZ t)).2 = true:=h
  show Lib.itoa (numV (numZ t)).1 = numZ t
  unfold numV at h' ⊢
  split
  ·rename_i n hn
   rw [hn] at h'
   exact of_decide_eq_true h'
  ·rename_i hn;rw [hn] at h';cases h'
  ·rename_i hn;rw [hn] at h';cases h'
 rw [hv]
 exact hz
end Go.Proofs.YtjmbhlgocikfiaaGreatDoor
