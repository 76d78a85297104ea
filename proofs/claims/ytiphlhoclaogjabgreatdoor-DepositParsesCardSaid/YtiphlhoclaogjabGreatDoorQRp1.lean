/- Draws: what drawn rows are like. Draws: columns of a kind; boxes that say the same with empty rows for nothing laid. -/
import Derived.Test.YtiphlhoclaogjabGreatDoorQB13
import Derived.Test.YtiphlhoclaogjabGreatDoorQB12
import Derived.Test.YtiphlhoclaogjabGreatDoorQB5
import Derived.Test.YtiphlhoclaogjabGreatDoorQNm1
import Derived.Test.YtiphlhoclaogjabGreatDoorQSx
import Derived.Lib.AtoiAllCases
import Derived.Lib.ItoaLen
set_option linter.unusedVariables false
set_option linter.unnecessarySimpa false
set_option linter.unusedSimpArgs false
namespace Go.Proofs.YtiphlhoclaogjabGreatDoor
open Go Go.Av
attribute [local irreducible] D6 B8 D8 D7 DQ E0 E1 St.le B4 B9
set_option maxRecDepth 100000
theorem l4.bd {s:C4} (h:J9 s) {i:Nat} {c:C5} (hc:s.cols[i]? = some c) {v:Int} (hv:l4 s c v):-1099511627776 ≤ v ∧ v ≤ 100:=by
 rcases hv with ⟨_,h1⟩ | ⟨hk,n,rfl,hn⟩ | ⟨hk,h1⟩
 ·omega
 ·rcases h.col hc with ⟨_,rfl⟩ | ⟨_,hcc⟩ | ⟨_,nm,hm⟩
  ·cases hk
  ·obtain ⟨hf,hnm,hlen⟩:=h.lst hcc
   rw [x8 hnm,Cr hnm] at hn
   have:=(Aq hf).mem n hn
   omega
  ·have:=hm.kind;omega
 ·rcases h.col hc with ⟨_,rfl⟩ | ⟨_,rfl | rfl⟩ | ⟨_,nm,hm⟩
  ·cases hk
  ·cases hk
  ·cases hk
  ·have:=hm.low
   have:=hm.high
   rcases h1 with h1 | h1 <;> omega
theorem Hr {s:C4} (hd:J9 s) (l:List UInt8):∀ (n k:Nat) (x:List Int × Nat),k + n ≤ s.cols.length → (∀ y ∈ x.1, -1099511627776 ≤ y ∧ y ≤ 100) → (rowFrom l s k x n).1.length = x.1.length + n ∧ ∀ y ∈ (rowFrom l s k x n).1, -1099511627776 ≤ y ∧ y ≤ 100
 | 0,k,x,_,h=>⟨rfl,h⟩
 | n + 1,k,x,hk,h=>by
   have hc:s.cols[k]? = some (s.cols[k]'(by omega)):=List.getElem?_eq_getElem (by omega)
   obtain ⟨h1,h2⟩:=Hr hd l n (k + 1) (x.1 ++ [(Y5 l x.2 s k).1],(Y5 l x.2 s k).2) (by omega) (fun y hy=>by
    rcases List.mem_append.1 hy with hy | hy
    ·exact h y hy
    ·simp only [List.mem_singleton] at hy
     subst hy
     exact l4.bd hd hc (Nq hd l x.2 hc))
   rw [rowFrom]
   refine ⟨?_,h2⟩
   rw [h1,List.length_append,List.length_singleton]
   omega
theorem WN {s:C4} (hd:J9 s) (l:List UInt8) (a:Nat):(T4 l a s).1.length = s.cols.length ∧ ∀ y ∈ (T4 l a s).1, -1099511627776 ≤ y ∧ y ≤ 100:=by
 have:=Hr hd l s.cols.length 0 ([],a) (by omega) (fun y hy=>by cases hy)
 unfold T4
 simpa using this
theorem Ct {E:Env} {n:Nat} {σ:St} (i:Nat) {l:List AV} (l':List AV) (hb:B3 σ.hp i = some (.box l)) (hn:CH l l'):St.le E n σ (σ.set i (.box l')):=by
 unfold St.le
 rintro a w ⟨θ,h⟩
 obtain ⟨hlen,hel⟩:=hn.get
 obtain ⟨_,b,arr,ty,h1,h2,h3,h4⟩:=h.owns i _ hb
 have ht:=h.turn (v':=θ i) (b':=.box l') (w':=w) hb rfl rfl rfl (Nat.le_refl _) (fun _ _ _=>rfl) (fun k hk=>.inl hk) rfl fun le=>?_
 ·exact ⟨_,ht⟩
 ·refine ⟨b,arr,ty,by simp only [cx,D4];exact h1,h2,by omega,fun j x y hx hy=>?_⟩
  obtain ⟨x0,hx0⟩:=L8 hlen hx
  exact LA (hel j x0 x hx0 hx) ((h4 j x0 y hx0 hy).mono le)
def FY (s:C4) (kind:Int) (k:Nat):List Nat:=(List.range k).filter fun i=>decide ((I7 s i).kind = kind)
theorem Jj {s:C4} {kind:Int} {i:Nat}:i ∈ FY s kind s.cols.length ↔ i < s.cols.length ∧ (I7 s i).kind = kind:=by
 unfold FY
 rw [List.mem_filter,List.mem_range,decide_eq_true_eq]
theorem J9.two {s:C4} (h:J9 s):1 ≤ (FY s 2 s.cols.length).length ∧ 1 ≤ (FY s 3 s.cols.length).length:=by
 have hl:=h.lens
 obtain ⟨b,ms,h1,h2,h3,h4⟩:=h.cs
 have m2:1 ∈ FY s 2 s.cols.length:=by
  refine Jj.2 ⟨by omega,?_⟩
  have:s.cols[1]? = some Ek:=by rw [h1];cases b <;> rfl
  rw [show I7 s ((1:Nat):Int) = Ek from u1 (by simpa using this)]
  rfl
 have m3:(Q4 b).length ∈ FY s 3 s.cols.length:=by
  have hm:ms[0]? = some (ms[0]'(by omega)):=List.getElem?_eq_getElem (by omega)
  have hc:s.cols[(Q4 b).length]? = some (ms[0]'(by omega)):=by rw [h1,List.getElem?_append_right (Nat.le_refl _),Nat.sub_self];exact hm
  refine Jj.2 ⟨R6 hc,?_⟩
  rw [show I7 s (((Q4 b).length:Nat):Int) = _ from u1 (by simpa using hc)]
  exact (h4 0 _ hm).kind
 exact ⟨List.length_pos_of_mem m2,List.length_pos_of_mem m3⟩
end Go.Proofs.YtiphlhoclaogjabGreatDoor
namespace Go.Proofs.YtiphlhoclaogjabGreatDoor
open Go Go.Av
attribute [local irreducible] D6 B8 D8 D7 DQ E0 E1 St.le B4 B9
set_option maxRecDepth 100000
def PJ (f g:Nat → Int) (L:List Nat):Prop:=∀ x ∈ L,∀ y ∈ L,f x = f y → g x = g y
instance (f g:Nat → Int) (L:List Nat):Decidable (PJ f g L):=by unfold PJ;infer_instance
theorem RP (m:List (Key × AV)) (k:Key) (v:AV) (k':Key):X5 (W3 m k v) k' = if k = k' then some v else X5 m k':=by
 induction m with
 | nil=>unfold W3 X5;by_cases e:k = k' <;> simp [e]
 | cons p r ih =>
   obtain ⟨a,b⟩:=p
   unfold W3
   by_cases e:a = k
   ·rw [if_pos e]
    subst e
    unfold X5
    by_cases e2:a = k' <;> simp [e2]
   ·rw [if_neg e]
    unfold X5 at ih ⊢
    by_cases e2:a = k'
    ·have:¬ k = k':=fun h=>e (e2.trans h.symm)
     simp [e2,this]
    ·simp only [List.find?_cons,e2,decide_false]
     exact ih
theorem Jk {t:TypeDesc} {k:Key} {v:AV} (hk:Aa t k = true):∀ {m:List (Key × AV)},X6 t m → X6 t (W3 m k v)
 | [],_=>fun p hp=>by
   unfold W3 at hp
   rw [List.mem_singleton] at hp
   rw [hp];exact hk
 | (a,b) :: r,hm=>fun p hp=>by
   unfold W3 at hp
   split at hp
   ·rename_i e
    rcases List.mem_cons.1 hp with rfl | hp
    ·exact hm (a,b) (by simp)
    ·exact hm p (by simp [hp])
   ·rcases List.mem_cons.1 hp with rfl | hp
    ·exact hm (a,b) (by simp)
    ·exact Jk hk (m:=r) (fun q hq=>hm q (by simp [hq])) p hp
def Tp (a:J3) (x:C5) (level:Int):Prop :=
 if level = 0 then x.opt = false ∧ ¬ (x.low < a.lo ∧ a.lo ≤ x.high) ∧ ¬ (x.low ≤ a.hi ∧ a.hi < x.high)
 else ((x.low < a.lo ∧ a.lo ≤ x.high) → a.lo.tmod (E6 x level) = 0) ∧ ((x.low ≤ a.hi ∧ a.hi < x.high) → (a.hi + 1).tmod (E6 x level) = 0)
instance (a:J3) (x:C5) (level:Int):Decidable (Tp a x level):=by unfold Tp;infer_instance
def aF (s:C4) (a:J3) (level:Int):Bool :=
 if a.op = 2 then decide (PJ (fun x=>o0 (E4 s (I7 s a.col)).1 (E4 s (I7 s a.col)).2 x level) (fun x=>ZN s a x) (Q0 s a.col))
 else if a.op = 4 then decide (0 < level) else decide (Tp a (I7 s a.col) level)
end Go.Proofs.YtiphlhoclaogjabGreatDoor
namespace Go.Proofs.YtiphlhoclaogjabGreatDoor
open Go Go.Av
attribute [local irreducible] D6 B8 D8 D7 DQ E0 E1 St.le B4 B9
set_option maxRecDepth 100000
def YI (s:C4) (a:J3):Nat → Nat → Nat
 | 0,n=>n
 | f + 1,n=>if aF s a n = true then n else YI s a f (n + 1)
def aG (s:C4) (a:J3):Nat:=YI s a (PF s a.col).toNat 0
def PK (lv:Nat → Int) (lo:Nat):Nat → List Pk
 | 0=>[]
 | n + 1=>if 0 < lv lo then ⟨lo,lv lo⟩ :: PK lv (lo + 1) n else PK lv (lo + 1) n
def ar (s:C4) (l:List J3) (i:Nat):Int:=l.foldl (fun (m:Int) (a:J3)=>if a.col = (i:Int) then max m (aG s a:Int) else m) 0
def VJ (s:C4) (c:J3):List Pk:=if MA s c = 0 then PK (ar s (YC c)) 0 s.cols.length else []
end Go.Proofs.YtiphlhoclaogjabGreatDoor
namespace Go.Proofs.YtiphlhoclaogjabGreatDoor
open Go Go.Av
attribute [local irreducible] D6 B8 D8 D7 DQ E0 E1 St.le B4 B9
set_option maxRecDepth 100000
def KV (s:C4) (row:List Int):Prop:=row.length = s.cols.length ∧ ∀ (i:Nat) c,s.cols[i]? = some c → l4 s c (row.getD i 0)
theorem Hs {s:C4} (hd:J9 s) (l:List UInt8):∀ (n k:Nat) (x:List Int × Nat),k + n = s.cols.length → x.1.length = k → (∀ (i:Nat) c,i < k → s.cols[i]? = some c → l4 s c (x.1.getD i 0)) → KV s (rowFrom l s k x n).1
 | 0,k,x,hk,hl,h=>by
   refine ⟨by show x.1.length = _;omega,fun i c hc=>h i c ?_ hc⟩
   have:=(List.getElem?_eq_some_iff.1 hc).1
   omega
 | n + 1,k,x,hk,hl,h=>by
   obtain ⟨c0,hc0⟩:∃ c,s.cols[k]? = some c:=⟨_,List.getElem?_eq_getElem (by omega)⟩
   refine Hs hd l n (k + 1) _ (by omega) (by simp [hl]) fun i c hi hc=>?_
   dsimp only
   by_cases e:i < k
   ·have:=h i c e hc
    rw [List.getD_eq_getElem?_getD] at this ⊢
    rw [List.getElem?_append_left (by omega)]
    exact this
   ·obtain rfl:i = k:=by omega
    rw [hc0] at hc
    cases hc
    rw [List.getD_eq_getElem?_getD,List.getElem?_append_right (by omega),hl,Nat.sub_self]
    exact Nq hd l x.2 hc0
theorem WO {s:C4} (hd:J9 s) (l:List UInt8) (a:Nat):KV s (T4 l a s).1 :=
 Hs hd l s.cols.length 0 ([],a) (by omega) rfl fun i c hi=>absurd hi (Nat.not_lt_zero _)
theorem l4.hold {s:C4} {c:C5} {v:Int} (h:l4 s c v):P2 s c v = true:=by
 unfold P2
 rcases h with ⟨hk,h1,h2⟩ | ⟨hk,n,rfl,hn⟩ | ⟨hk,h1⟩
 ·rw [if_pos hk];exact decide_eq_true (by omega)
 ·rw [if_neg (by omega),if_pos hk]
  obtain ⟨g1,g2,g3⟩:=WK hn
  have:=(Hn g1 g2).1 (by rw [← Dj ⟨by omega,by omega,g1⟩];simpa using g3)
  rw [this,decide_eq_true (show (0:Int) ≤ n ∧ (n:Int) < (E4 s c).2.length by omega)]
  rfl
 ·rw [if_neg (by omega),if_neg (by omega)]
  rcases h1 with h1 | h1
  ·rw [decide_eq_true h1];rfl
  ·rw [h1.1,h1.2];simp
theorem WP {s:C4} (hr:H6 s = 0) {row:List Int} (h:KV s row):Ce s row = 0:=by
 unfold Ce
 rw [if_pos hr,if_pos]
 unfold J8
 rw [decide_eq_true h.1,Bool.true_and,Bool.not_eq_true',List.any_eq_false]
 rintro ⟨c,v⟩ hm
 obtain ⟨i,hi⟩:=List.mem_iff_getElem?.1 hm
 rw [List.getElem?_zip_eq_some] at hi
 have:=(h.2 i c hi.1)
 rw [U3 hi.2] at this
 unfold w9
 rw [this.hold]
 decide
end Go.Proofs.YtiphlhoclaogjabGreatDoor
namespace Go.Proofs.YtiphlhoclaogjabGreatDoor
open Go Go.Av
attribute [local irreducible] D6 B8 D8 D7 DQ E0 E1 St.le B4 B9
set_option maxRecDepth 100000
theorem Ht:∀ (r pre:List Code),scan pre r = none → ∀ c ∈ r,E7 c.name = true
 | [],_,_,c,hc=>by cases hc
 | x :: r,pre,h,c,hc=>by
   unfold scan at h
   split at h
   ·cases h
   ·rename_i hn
    split at h
    ·cases h
    ·split at h
     ·cases h
     ·rcases List.mem_cons.1 hc with rfl | hc
      ·cases hb:E7 c.name
       ·exact absurd hb hn
       ·rfl
      ·exact Ht r _ h c hc
theorem Et:∀ (r pre:List Code),scan pre r ≠ some 0
 | [],_=>by unfold scan;exact fun h=>by cases h
 | x :: r,pre=>by
   unfold scan
   split
   ·exact fun h=>by cases h
   ·split
    ·exact fun h=>by cases h
    ·split
     ·exact fun h=>by cases h
     ·exact Et r _
theorem RQ {nm:List UInt8} {cs:List Code} (h:chk nm cs = 0):∀ c ∈ cs,E7 c.name = true:=by
 unfold chk at h
 split at h
 ·cases h
 split at h
 ·cases h
 split at h
 ·cases h
 cases hs:scan [] cs with
 | some e =>
   rw [hs] at h
   dsimp only at h
   subst h
   exact absurd hs (Et cs [])
 | none=>exact Ht cs [] hs
theorem Ar {l:List UInt8} (h:E7 l = true):l.length ≤ 16:=by
 unfold E7 at h
 simp only [Bool.and_eq_true,decide_eq_true_eq] at h
 exact h.1.1.1
end Go.Proofs.YtiphlhoclaogjabGreatDoor
namespace Go.Proofs.YtiphlhoclaogjabGreatDoor
open Go Go.Av
attribute [local irreducible] D6 B8 D8 D7 DQ E0 E1 St.le B4 B9
set_option maxRecDepth 100000
def Jl (b:UInt8):Bool:=decide (b.toNat ≠ 32 ∧ b.toNat ≠ 40 ∧ b.toNat ≠ 41)
def d8 (l:List UInt8):Nat:=l.foldl (fun n b=>10 * n + (b.toNat - 48)) 0
theorem Eu (l:List UInt8) (b:UInt8):d8 (l ++ [b]) = 10 * d8 l + (b.toNat - 48):=by
 unfold d8;rw [List.foldl_append];rfl
theorem Nt:∀ (l:List UInt8) (n:Nat),l.all U9 = true → l.foldl (fun n b=>10 * n + (b.toNat - 48)) n + 1 ≤ (n + 1) * 10 ^ l.length
 | [],n,_=>by simp
 | b :: r,n,h=>by
   rw [List.all_cons,Bool.and_eq_true] at h
   have h2:=of_decide_eq_true h.1
   have i:=Nt r (10 * n + (b.toNat - 48)) h.2
   rw [List.foldl_cons,List.length_cons,Nat.pow_succ]
   refine Nat.le_trans i ?_
   have e:(n + 1) * (10 ^ r.length * 10) = (10 * n + 10) * 10 ^ r.length:=by
    rw [Nat.mul_comm (10 ^ r.length) 10, ← Nat.mul_assoc]
    congr 1
    omega
   rw [e]
   exact Nat.mul_le_mul_right _ (by omega)
theorem Nu {l:List UInt8} (h:l.all U9 = true):d8 l < 10 ^ l.length:=by
 have:=Nt l 0 h
 unfold d8
 omega
def D1 (z:List UInt8):Int × Bool :=
 if (H9 [45] z).1.length < 1 ∨ 15 < (H9 [45] z).1.length then (0,false)
 else if (H9 [45] z).1.all U9 = true then
  (if (H9 [45] z).1.length < z.length then (-(d8 (H9 [45] z).1:Int),decide (Lib.itoa (-(d8 (H9 [45] z).1:Int)) = z))
  else ((d8 (H9 [45] z).1:Int),decide (Lib.itoa (d8 (H9 [45] z).1) = z)))
 else (0,false)
theorem MD {z:List UInt8} (h:(D1 z).2 = true):Lib.itoa (D1 z).1 = z:=by
 unfold D1 at h ⊢
 by_cases h1:(H9 [45] z).1.length < 1 ∨ 15 < (H9 [45] z).1.length
 ·rw [if_pos h1] at h;cases h
 rw [if_neg h1] at h ⊢
 by_cases h2:(H9 [45] z).1.all U9 = true
 ·rw [if_pos h2] at h ⊢
  by_cases h3:(H9 [45] z).1.length < z.length
  ·rw [if_pos h3] at h ⊢;exact of_decide_eq_true h
  ·rw [if_neg h3] at h ⊢;exact of_decide_eq_true h
 ·rw [if_neg h2] at h;cases h
theorem q8 (u:Nat):d8 (Lib.decDigits u) = u ∧ (Lib.decDigits u).all U9 = true ∧ 1 ≤ (Lib.decDigits u).length:=by
 induction u using Nat.strongRecOn with
 | ind u ih =>
   rw [Lib.decDigits]
   by_cases h1:u < 10
   ·rw [dif_pos h1]
    have e:=Hq h1
    refine ⟨?_,?_,by simp⟩
    ·have:=Eu [] (UInt8.ofNat (48 + u))
     rw [List.nil_append] at this
     rw [this,e]
     show 10 * 0 + (48 + u - 48) = u
     omega
    ·simp only [List.all_cons,List.all_nil,Bool.and_true,U9,decide_eq_true_eq]
     omega
   ·rw [dif_neg h1]
    obtain ⟨i1,i2,i3⟩:=ih (u / 10) (by omega)
    have hd:u % 10 < 10:=by omega
    have e:=Hq hd
    refine ⟨?_,?_,by simp⟩
    ·rw [Eu,i1,e];omega
    ·rw [List.all_append,i2]
     simp only [List.all_cons,List.all_nil,Bool.and_true,Bool.true_and,U9,decide_eq_true_eq]
     omega
def VK (u:List UInt8):Prop:=∀ b r,u = b :: r → Jl b = false
theorem VL {b:UInt8} (h:GE b = true):Jl b = true:=by
 unfold GE at h
 unfold Jl
 have:=of_decide_eq_true h
 exact decide_eq_true (by omega)
theorem VK.stops {u:List UInt8} (h:VK u):VI u:=fun b r e=>by
 have h1:=h b r e
 cases hw:GE b
 ·rfl
 ·rw [VL hw] at h1;cases h1
theorem ME {l:List UInt8} (h:l.all U9 = true):l.all Jl = true:=by
 rw [List.all_eq_true] at h ⊢
 exact fun b hb=>VL (YH (h b hb))
theorem YJ (n:Int):(Lib.itoa n).all Jl = true:=by
 unfold Lib.itoa
 split
 ·rw [List.all_cons,ME (q8 _).2.1];rfl
 ·exact ME (q8 _).2.1
end Go.Proofs.YtiphlhoclaogjabGreatDoor
