/- Numbers as texts: what is printed is read. -/
import Derived.Test.YthkklceofokkmaaGreatDoorBC4
import Derived.Lib.ItoaNum
import Derived.Lib.AtoiAll
set_option linter.unusedVariables false
set_option linter.unnecessarySimpa false
set_option linter.unusedSimpArgs false
namespace Go.Proofs.YthkklceofokkmaaGreatDoor
open Go Go.Av
attribute [local irreducible] E5 B7 E6 E7 DQ E8 F0 St.le B3 B5
set_option maxRecDepth 100000
theorem ah:∀ d:Fin 10,(UInt8.ofNat (48 + d.val)).toNat = 48 + d.val:=by decide
theorem LE {d:Nat} (h:d < 10):(UInt8.ofNat (48 + d)).toNat = 48 + d:=ah ⟨d,h⟩
theorem Hf:∀ (l:List UInt8) (acc u d:Nat),Lib.parseUint10 acc l = .ok u → d < 10 → u * 10 + d < 1000000000000000000 → u < 1844674407370955162 → Lib.parseUint10 acc (l ++ [UInt8.ofNat (48 + d)]) = .ok (u * 10 + d)
 | [],acc,u,d,h,hd,hb,hu=>by
   unfold Lib.parseUint10 at h
   cases h
   have e:=LE hd
   show Lib.parseUint10 acc [UInt8.ofNat (48 + d)] = _
   unfold Lib.parseUint10
   rw [if_pos (by omega),if_neg (by omega),if_neg (by omega)]
   unfold Lib.parseUint10
   rw [e]
   congr 1
   omega
 | c :: r,acc,u,d,h,hd,hb,hu=>by
   unfold Lib.parseUint10 at h
   rw [List.cons_append]
   unfold Lib.parseUint10
   split at h
   ·rename_i h1
    rw [if_pos h1]
    split at h
    ·cases h
    ·rename_i h2
     rw [if_neg h2]
     split at h
     ·cases h
     ·rename_i h3
      rw [if_neg h3]
      exact Hf r _ u d h hd hb hu
   ·cases h
def Ga (c:UInt8):Bool:=decide (48 ≤ c.toNat ∧ c.toNat ≤ 57)
theorem LF (u:Nat):u < 1000000000000000000 → Lib.parseUint10 0 (Lib.decDigits u) = .ok u ∧ (Lib.decDigits u).all Ga = true ∧ Lib.decDigits u ≠ []:=by
 induction u using Nat.strongRecOn with
 | ind u ih =>
   intro h
   rw [Lib.decDigits]
   by_cases h1:u < 10
   ·rw [dif_pos h1]
    have e:=LE h1
    refine ⟨?_,?_,by simp⟩
    ·have:=Hf [] 0 0 u rfl h1 (by omega) (by omega)
     simpa using this
    ·simp only [List.all_cons,List.all_nil,Bool.and_true,Ga,decide_eq_true_eq]
     omega
   ·rw [dif_neg h1]
    obtain ⟨i1,i2,i3⟩:=ih (u / 10) (by omega) (by omega)
    have hd:u % 10 < 10:=by omega
    have e:=LE hd
    refine ⟨?_,?_,by simp⟩
    ·rw [Hf _ 0 (u / 10) (u % 10) i1 hd (by omega) (by omega)]
     congr 1
     omega
    ·rw [List.all_append,i2]
     simp only [List.all_cons,List.all_nil,Bool.and_true,Bool.true_and,Ga,decide_eq_true_eq]
     omega
theorem Ab {c:UInt8} (h:Ga c = true):J5 c = true:=by
 unfold Ga at h
 unfold J5
 have:=of_decide_eq_true h
 exact decide_eq_true (.inr (.inl this))
theorem PR {l:List UInt8} {c:UInt8} {r:List UInt8} (h:l.all Ga = true) (e:l = c :: r):48 ≤ c.toNat ∧ c.toNat ≤ 57:=by
 subst e
 rw [List.all_cons,Bool.and_eq_true] at h
 exact of_decide_eq_true h.1
theorem ND {n:Int} (h1:-100000000000000 ≤ n) (h2:n ≤ 100000000000000):Lib.atoiAll (Lib.itoa n) = .ok n:=by
 unfold Lib.itoa
 by_cases h:n < 0
 ·rw [if_pos h]
  obtain ⟨d1,d2,d3⟩:=LF n.natAbs (by omega)
  unfold Lib.atoiAll
  have e:(45:UInt8).toNat = 45:=rfl
  dsimp only
  rw [if_pos (.inr e)]
  have hm:Lib.parseMag (Lib.decDigits n.natAbs) = .ok n.natAbs:=by
   unfold Lib.parseMag
   rw [if_neg d3];exact d1
  rw [hm]
  dsimp only
  rw [if_neg (fun hh=>hh.1 e),if_neg (by omega),if_pos e]
  congr 1
  omega
 ·rw [if_neg h]
  obtain ⟨d1,d2,d3⟩:=LF n.toNat (by omega)
  cases hc:Lib.decDigits n.toNat with
  | nil=>exact absurd hc d3
  | cons c r =>
    have hh:=PR d2 hc
    unfold Lib.atoiAll
    dsimp only
    rw [if_neg (by omega)]
    have hm:Lib.parseMag (c :: r) = .ok n.toNat:=by
     unfold Lib.parseMag
     rw [if_neg (by simp), ← hc]
     exact d1
    rw [hm]
    dsimp only
    rw [if_neg (by omega),if_neg (by omega),if_neg (by omega)]
    congr 1
    omega
def Ao (u:List UInt8):Prop:=∀ b r,u = b :: r → J5 b = false
theorem EQ:∀ {n u:List UInt8},n.all J5 = true → Ao u → (n ++ u).takeWhile J5 = n ∧ (n ++ u).dropWhile J5 = u
 | [],u,_,hu=>by
   rw [List.nil_append]
   cases u with
   | nil=>exact ⟨rfl,rfl⟩
   | cons b r =>
     have:=hu b r rfl
     rw [List.takeWhile_cons,List.dropWhile_cons,this]
     exact ⟨rfl,rfl⟩
 | c :: r,u,h,hu=>by
   rw [List.all_cons,Bool.and_eq_true] at h
   obtain ⟨i1,i2⟩:=EQ h.2 hu
   rw [List.cons_append,List.takeWhile_cons,List.dropWhile_cons,h.1,i1,i2]
   exact ⟨rfl,rfl⟩
theorem Z7 (w u:List UInt8):C7 w (w ++ u) = (u,true):=by
 have h:w.isPrefixOf (w ++ u) = true:=by
  rw [List.isPrefixOf_iff_prefix]
  exact List.prefix_append w u
 unfold C7
 rw [if_pos h,List.drop_left]
theorem PS {a b:UInt8} {w u:List UInt8} (h:a ≠ b):C7 (a :: w) (b :: u) = (b :: u,false):=by
 unfold C7
 rw [if_neg (by
  rw [List.isPrefixOf_cons_cons]
  simp [h])]
theorem W5 {w t:List UInt8} (h:(C7 w t).2 = true):t = w ++ (C7 w t).1:=by
 unfold C7 at h ⊢
 split
 ·rename_i hp
  rw [List.isPrefixOf_iff_prefix] at hp
  obtain ⟨v,rfl⟩:=hp
  dsimp only
  rw [List.drop_left]
 ·rename_i hp
  rw [if_neg hp] at h
  cases h
theorem VV {w t:List UInt8} (h:¬ (C7 w t).2 = true):C7 w t = (t,false):=by
 unfold C7 at h ⊢
 split
 ·rename_i hp
  rw [if_pos hp] at h
  exact absurd rfl h
 ·rfl
theorem Gb (t:List UInt8):t.takeWhile J5 ++ t.dropWhile J5 = t:=List.takeWhile_append_dropWhile
theorem PT:∀ (k u:Nat),u < 10 ^ (k + 1) → (Lib.decDigits u).length ≤ k + 1
 | 0,u,h=>by
   rw [Lib.decDigits,dif_pos (by simpa using h)];simp
 | k + 1,u,h=>by
   rw [Lib.decDigits]
   by_cases h1:u < 10
   ·rw [dif_pos h1];simp
   ·rw [dif_neg h1,List.length_append,List.length_singleton]
    have:=PT k (u / 10) (by rw [Nat.pow_succ] at h;omega)
    omega
theorem Xh {n:Int} (h1:-100000000000000 ≤ n) (h2:n ≤ 100000000000000) {u:List UInt8} (hu:Ao u):Q5 (Lib.itoa n ++ u) = (n,true,u) ∧ ((C7 [45] (Lib.itoa n ++ u)).1.takeWhile J5).length ≤ 15:=by
 have hat:=ND h1 h2
 have key:BQ (Lib.itoa n ++ u) = Lib.itoa n ∧ (C7 [45] (Lib.itoa n ++ u)).1.dropWhile J5 = u ∧ ((C7 [45] (Lib.itoa n ++ u)).1.takeWhile J5).length ≤ 15:=by
  unfold Lib.itoa
  by_cases h:n < 0
  ·rw [if_pos h]
   obtain ⟨_,d2,_⟩:=LF n.natAbs (by omega)
   have dw:(Lib.decDigits n.natAbs).all J5 = true:=by
    rw [List.all_eq_true] at d2 ⊢
    exact fun c hc=>Ab (d2 c hc)
   have e:C7 [45] (45 :: Lib.decDigits n.natAbs ++ u) = (Lib.decDigits n.natAbs ++ u,true):=Z7 [45] _
   unfold BQ
   rw [e]
   dsimp only
   obtain ⟨t1,t2⟩:=EQ dw hu
   rw [t1,t2]
   exact ⟨rfl,rfl,PT 14 _ (by omega)⟩
  ·rw [if_neg h]
   obtain ⟨_,d2,d3⟩:=LF n.toNat (by omega)
   have dw:(Lib.decDigits n.toNat).all J5 = true:=by
    rw [List.all_eq_true] at d2 ⊢
    exact fun c hc=>Ab (d2 c hc)
   obtain ⟨t1,t2⟩:=EQ dw hu
   have e:C7 [45] (Lib.decDigits n.toNat ++ u) = (Lib.decDigits n.toNat ++ u,false):=by
    cases hc:Lib.decDigits n.toNat with
    | nil=>exact absurd hc d3
    | cons c r =>
      have hh:=PR d2 hc
      exact PS (by intro e;rw [← e] at hh;exact absurd hh.1 (by decide))
   unfold BQ
   rw [e]
   dsimp only
   rw [t1,t2]
   exact ⟨rfl,rfl,PT 14 _ (by omega)⟩
 refine ⟨?_,key.2.2⟩
 unfold Q5
 rw [key.1,key.2.1]
 unfold GZ
 rw [hat]
 dsimp only
 rw [decide_eq_true rfl]
theorem Rz {n:Int} (h1:-100000000000000 ≤ n) (h2:n ≤ 100000000000000) {u:List UInt8} (hu:Ao u):Q5 (Lib.itoa n ++ u) = (n,true,u):=(Xh h1 h2 hu).1
theorem SA {t:List UInt8} (h:(Q5 t).2.1 = true):t = Lib.itoa (Q5 t).1 ++ (Q5 t).2.2:=by
 have hz:t = BQ t ++ (Q5 t).2.2:=by
  show t = BQ t ++ (C7 [45] t).1.dropWhile J5
  unfold BQ
  rw [List.append_assoc,Gb]
  by_cases hc:(C7 [45] t).2 = true
  ·rw [if_pos hc];exact W5 hc
  ·rw [if_neg hc,VV hc];rfl
 have hv:Lib.itoa (Q5 t).1 = BQ t:=by
  have h':(GZ (BQ t)).2 = true:=h
  show Lib.itoa (GZ (BQ t)).1 = BQ t
  unfold GZ at h' ⊢
  split
  ·rename_i n hn
   rw [hn] at h'
   exact of_decide_eq_true h'
  ·rename_i hn;rw [hn] at h';cases h'
  ·rename_i hn;rw [hn] at h';cases h'
 rw [hv]
 exact hz
end Go.Proofs.YthkklceofokkmaaGreatDoor
