/- Numbers as texts: what is printed is read. -/
import Derived.Test.YtjmbhlgocikfiaaGreatDoorUC4
import Derived.Lib.ItoaNum
import Derived.Lib.AtoiAll
set_option linter.unusedVariables false
set_option linter.unnecessarySimpa false
set_option linter.unusedSimpArgs false
namespace Go.Proofs.YtjmbhlgocikfiaaGreatDoor
open Go Go.Av
attribute [local irreducible] AWp AOps AAny MAny DQ retQ retG St.le FCall GCall
set_option maxRecDepth 100000
theorem dig_nat:∀ d:Fin 10,(UInt8.ofNat (48 + d.val)).toNat = 48 + d.val:=by decide
theorem dig_n {d:Nat} (h:d < 10):(UInt8.ofNat (48 + d)).toNat = 48 + d:=dig_nat ⟨d,h⟩
theorem parse_app:∀ (l:List UInt8) (acc u d:Nat),Lib.parseUint10 acc l = .ok u → d < 10 → u * 10 + d < 1000000000000000000 → u < 1844674407370955162 → Lib.parseUint10 acc (l ++ [UInt8.ofNat (48 + d)]) = .ok (u * 10 + d)
 | [],acc,u,d,h,hd,hb,hu=>by
  unfold Lib.parseUint10 at h
  cases h
  have e:=dig_n hd
  show Lib.parseUint10 acc [UInt8.ofNat (48 + d)] = _
  unfold Lib.parseUint10
  rw [if_pos (by omega),if_neg (by omega),if_neg (by omega)]
  unfold Lib.parseUint10
  rw [e]
  congr 1
  omega
 | c :: r,acc,u,d,h,hd,hb,hu=>by
  unfold Lib.parseUint10 at h
  rw [List.cons_append]
  unfold Lib.parseUint10
  split at h
  ·rename_i h1
   rw [if_pos h1]
   split at h
   ·cases h
   ·rename_i h2
    rw [if_neg h2]
    split at h
    ·cases h
    ·rename_i h3
     rw [if_neg h3]
     exact parse_app r _ u d h hd hb hu
  ·cases h
def digB (c:UInt8):Bool:=decide (48 ≤ c.toNat ∧ c.toNat ≤ 57)
theorem dec_ok (u:Nat):u < 1000000000000000000 → Lib.parseUint10 0 (Lib.decDigits u) = .ok u ∧ (Lib.decDigits u).all digB = true ∧ Lib.decDigits u ≠ []:=by
 induction u using Nat.strongRecOn with
 | ind u ih =>
  intro h
  rw [Lib.decDigits]
  by_cases h1:u < 10
  ·rw [dif_pos h1]
   have e:=dig_n h1
   refine ⟨?_,?_,by simp⟩
   ·have:=parse_app [] 0 0 u rfl h1 (by omega) (by omega)
    simpa using this
   ·simp only [List.all_cons,List.all_nil,Bool.and_true,digB,decide_eq_true_eq]
    omega
  ·rw [dif_neg h1]
   obtain ⟨i1,i2,i3⟩:=ih (u / 10) (by omega) (by omega)
   have hd:u % 10 < 10:=by omega
   have e:=dig_n hd
   refine ⟨?_,?_,by simp⟩
   ·rw [parse_app _ 0 (u / 10) (u % 10) i1 hd (by omega) (by omega)]
    congr 1
    omega
   ·rw [List.all_append,i2]
    simp only [List.all_cons,List.all_nil,Bool.and_true,Bool.true_and,digB,decide_eq_true_eq]
    omega
theorem digB_w {c:UInt8} (h:digB c = true):isW c = true:=by
 unfold digB at h
 unfold isW
 have:=of_decide_eq_true h
 exact decide_eq_true (.inr (.inl this))
theorem head_dig {l:List UInt8} {c:UInt8} {r:List UInt8} (h:l.all digB = true) (e:l = c :: r):48 ≤ c.toNat ∧ c.toNat ≤ 57:=by
 subst e
 rw [List.all_cons,Bool.and_eq_true] at h
 exact of_decide_eq_true h.1
theorem atoi_itoa {n:Int} (h1:-100000000000000 ≤ n) (h2:n ≤ 100000000000000):Lib.atoiAll (Lib.itoa n) = .ok n:=by
 unfold Lib.itoa
 by_cases h:n < 0
 ·rw [if_pos h]
  obtain ⟨d1,d2,d3⟩:=dec_ok n.natAbs (by omega)
  unfold Lib.atoiAll
  have e:(45:UInt8).toNat = 45:=rfl
  dsimp only
  rw [if_pos (.inr e)]
  have hm:Lib.parseMag (Lib.decDigits n.natAbs) = .ok n.natAbs:=by
   unfold Lib.parseMag
   rw [if_neg d3];exact d1
  rw [hm]
  dsimp only
  rw [if_neg (fun hh=>hh.1 e),if_neg (by omega),if_pos e]
  congr 1
  omega
 ·rw [if_neg h]
  obtain ⟨d1,d2,d3⟩:=dec_ok n.toNat (by omega)
  cases hc:Lib.decDigits n.toNat with
  | nil=>exact absurd hc d3
  | cons c r =>
   have hh:=head_dig d2 hc
   unfold Lib.atoiAll
   dsimp only
   rw [if_neg (by omega)]
   have hm:Lib.parseMag (c :: r) = .ok n.toNat:=by
    unfold Lib.parseMag
    rw [if_neg (by simp), ← hc]
    exact d1
   rw [hm]
   dsimp only
   rw [if_neg (by omega),if_neg (by omega),if_neg (by omega)]
   congr 1
   omega
def Stops (u:List UInt8):Prop:=∀ b r,u = b :: r → isW b = false
theorem tw_app:∀ {n u:List UInt8},n.all isW = true → Stops u → (n ++ u).takeWhile isW = n ∧ (n ++ u).dropWhile isW = u
 | [],u,_,hu=>by
  rw [List.nil_append]
  cases u with
  | nil=>exact ⟨rfl,rfl⟩
  | cons b r =>
   have:=hu b r rfl
   rw [List.takeWhile_cons,List.dropWhile_cons,this]
   exact ⟨rfl,rfl⟩
 | c :: r,u,h,hu=>by
  rw [List.all_cons,Bool.and_eq_true] at h
  obtain ⟨i1,i2⟩:=tw_app h.2 hu
  rw [List.cons_append,List.takeWhile_cons,List.dropWhile_cons,h.1,i1,i2]
  exact ⟨rfl,rfl⟩
theorem cut_yes (w u:List UInt8):cutS w (w ++ u) = (u,true):=by
 have h:w.isPrefixOf (w ++ u) = true:=by
  rw [List.isPrefixOf_iff_prefix]
  exact List.prefix_append w u
 unfold cutS
 rw [if_pos h,List.drop_left]
theorem cut_head {a b:UInt8} {w u:List UInt8} (h:a ≠ b):cutS (a :: w) (b :: u) = (b :: u,false):=by
 unfold cutS
 rw [if_neg (by
  rw [List.isPrefixOf_cons_cons]
  simp [h])]
theorem cut_inv {w t:List UInt8} (h:(cutS w t).2 = true):t = w ++ (cutS w t).1:=by
 unfold cutS at h ⊢
 split
 ·rename_i hp
  rw [List.isPrefixOf_iff_prefix] at hp
  obtain ⟨v,rfl⟩:=hp
  dsimp only
  rw [List.drop_left]
 ·rename_i hp
  rw [if_neg hp] at h
  cases h
theorem cut_no {w t:List UInt8} (h:¬ (cutS w t).2 = true):cutS w t = (t,false):=by
 unfold cutS at h ⊢
 split
 ·rename_i hp
  rw [if_pos hp] at h
  exact absurd rfl h
 ·rfl
theorem tw_split (t:List UInt8):t.takeWhile isW ++ t.dropWhile isW = t:=List.takeWhile_append_dropWhile
theorem dec_le:∀ (k u:Nat),u < 10 ^ (k + 1) → (Lib.decDigits u).length ≤ k + 1
 | 0,u,h=>by
  rw [Lib.decDigits,dif_pos (by simpa using h)];simp
 | k + 1,u,h=>by
  rw [Lib.decDigits]
  by_cases h1:u < 10
  ·rw [dif_pos h1];simp
  ·rw [dif_neg h1,List.length_append,List.length_singleton]
   have:=dec_le k (u / 10) (by rw [Nat.pow_succ] at h;omega)
   omega
theorem num_txt2 {n:Int} (h1:-100000000000000 ≤ n) (h2:n ≤ 100000000000000) {u:List UInt8} (hu:Stops u):numS (Lib.itoa n ++ u) = (n,true,u) ∧ ((cutS [45] (Lib.itoa n ++ u)).1.takeWhile isW).length ≤ 15:=by
 have hat:=atoi_itoa h1 h2
 have key:numZ (Lib.itoa n ++ u) = Lib.itoa n ∧ (cutS [45] (Lib.itoa n ++ u)).1.dropWhile isW = u ∧ ((cutS [45] (Lib.itoa n ++ u)).1.takeWhile isW).length ≤ 15:=by
  unfold Lib.itoa
  by_cases h:n < 0
  ·rw [if_pos h]
   obtain ⟨_,d2,_⟩:=dec_ok n.natAbs (by omega)
   have dw:(Lib.decDigits n.natAbs).all isW = true:=by
    rw [List.all_eq_true] at d2 ⊢
    exact fun c hc=>digB_w (d2 c hc)
   have e:cutS [45] (45 :: Lib.decDigits n.natAbs ++ u) = (Lib.decDigits n.natAbs ++ u,true):=cut_yes [45] _
   unfold numZ
   rw [e]
   dsimp only
   obtain ⟨t1,t2⟩:=tw_app dw hu
   rw [t1,t2]
   exact ⟨rfl,rfl,dec_le 14 _ (by omega)⟩
  ·rw [if_neg h]
   obtain ⟨_,d2,d3⟩:=dec_ok n.toNat (by omega)
   have dw:(Lib.decDigits n.toNat).all isW = true:=by
    rw [List.all_eq_true] at d2 ⊢
    exact fun c hc=>digB_w (d2 c hc)
   obtain ⟨t1,t2⟩:=tw_app dw hu
   have e:cutS [45] (Lib.decDigits n.toNat ++ u) = (Lib.decDigits n.toNat ++ u,false):=by
    cases hc:Lib.decDigits n.toNat with
    | nil=>exact absurd hc d3
    | cons c r =>
     have hh:=head_dig d2 hc
     exact cut_head (by intro e;rw [← e] at hh;exact absurd hh.1 (by decide))
   unfold numZ
   rw [e]
   dsimp only
   rw [t1,t2]
   exact ⟨rfl,rfl,dec_le 14 _ (by omega)⟩
 refine ⟨?_,key.2.2⟩
 unfold numS
 rw [key.1,key.2.1]
 unfold numV
 rw [hat]
 dsimp only
 rw [decide_eq_true rfl]
theorem num_txt {n:Int} (h1:-100000000000000 ≤ n) (h2:n ≤ 100000000000000) {u:List UInt8} (hu:Stops u):numS (Lib.itoa n ++ u) = (n,true,u):=(num_txt2 h1 h2 hu).1
theorem num_inv {t:List UInt8} (h:(numS t).2.1 = true):t = Lib.itoa (numS t).1 ++ (numS t).2.2:=by
 have hz:t = numZ t ++ (numS t).2.2:=by
  show t = numZ t ++ (cutS [45] t).1.dropWhile isW
  unfold numZ
  rw [List.append_assoc,tw_split]
  by_cases hc:(cutS [45] t).2 = true
  ·rw [if_pos hc];exact cut_inv hc
  ·rw [if_neg hc,cut_no hc];rfl
 have hv:Lib.itoa (numS t).1 = numZ t:=by
  have h':(numV (numZ t)).2 = true:=h
  show Lib.itoa (numV (numZ t)).1 = numZ t
  unfold numV at h' ⊢
  split
  ·rename_i n hn
   rw [hn] at h'
   exact of_decide_eq_true h'
  ·rename_i hn;rw [hn] at h';cases h'
  ·rename_i hn;rw [hn] at h';cases h'
 rw [hv]
 exact hz
end Go.Proofs.YtjmbhlgocikfiaaGreatDoor
