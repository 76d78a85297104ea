/- Numbers as texts: what is printed is read. -/
import Derived.Test.YtiphlhoclaogjabGreatDoorQC4
import Derived.Lib.ItoaNum
import Derived.Lib.AtoiAll
import Derived.Test.YtiphlhoclaogjabGreatDoorQB13
import Derived.Test.YtiphlhoclaogjabGreatDoorQB12
import Derived.Test.YtiphlhoclaogjabGreatDoorQB5
import Derived.Test.YtiphlhoclaogjabGreatDoorQSx
import Derived.Lib.AtoiAllCases
import Derived.Lib.ItoaLen
set_option linter.unusedVariables false
set_option linter.unnecessarySimpa false
set_option linter.unusedSimpArgs false
namespace Go.Proofs.YtiphlhoclaogjabGreatDoor
open Go Go.Av
attribute [local irreducible] D1 B5 D5 D3 DQ D7 E0 St.le B3 B6
set_option maxRecDepth 100000
theorem Wm:∀ d:Fin 10,(UInt8.ofNat (48 + d.val)).toNat = 48 + d.val:=by decide
theorem Ht {d:Nat} (h:d < 10):(UInt8.ofNat (48 + d)).toNat = 48 + d:=Wm ⟨d,h⟩
theorem Ek:∀ (l:List UInt8) (acc u d:Nat),Lib.parseUint10 acc l = .ok u → d < 10 → u * 10 + d < 1000000000000000000 → u < 1844674407370955162 → Lib.parseUint10 acc (l ++ [UInt8.ofNat (48 + d)]) = .ok (u * 10 + d)
 | [],acc,u,d,h,hd,hb,hu=>by
   unfold Lib.parseUint10 at h
   cases h
   have e:=Ht hd
   show Lib.parseUint10 acc [UInt8.ofNat (48 + d)] = _
   unfold Lib.parseUint10
   rw [if_pos (by omega),if_neg (by omega),if_neg (by omega)]
   unfold Lib.parseUint10
   rw [e]
   congr 1
   omega
 | c :: r,acc,u,d,h,hd,hb,hu=>by
   unfold Lib.parseUint10 at h
   rw [List.cons_append]
   unfold Lib.parseUint10
   split at h
   ·rename_i h1
    rw [if_pos h1]
    split at h
    ·cases h
    ·rename_i h2
     rw [if_neg h2]
     split at h
     ·cases h
     ·rename_i h3
      rw [if_neg h3]
      exact Ek r _ u d h hd hb hu
   ·cases h
def Bq (c:UInt8):Bool:=decide (48 ≤ c.toNat ∧ c.toNat ≤ 57)
theorem Rg (u:Nat):u < 1000000000000000000 → Lib.parseUint10 0 (Lib.decDigits u) = .ok u ∧ (Lib.decDigits u).all Bq = true ∧ Lib.decDigits u ≠ []:=by
 induction u using Nat.strongRecOn with
 | ind u ih =>
   intro h
   rw [Lib.decDigits]
   by_cases h1:u < 10
   ·rw [dif_pos h1]
    have e:=Ht h1
    refine ⟨?_,?_,by simp⟩
    ·have:=Ek [] 0 0 u rfl h1 (by omega) (by omega)
     simpa using this
    ·simp only [List.all_cons,List.all_nil,Bool.and_true,Bq,decide_eq_true_eq]
     omega
   ·rw [dif_neg h1]
    obtain ⟨i1,i2,i3⟩:=ih (u / 10) (by omega) (by omega)
    have hd:u % 10 < 10:=by omega
    have e:=Ht hd
    refine ⟨?_,?_,by simp⟩
    ·rw [Ek _ 0 (u / 10) (u % 10) i1 hd (by omega) (by omega)]
     congr 1
     omega
    ·rw [List.all_append,i2]
     simp only [List.all_cons,List.all_nil,Bool.and_true,Bool.true_and,Bq,decide_eq_true_eq]
     omega
theorem MN {c:UInt8} (h:Bq c = true):CO c = true:=by
 unfold Bq at h
 unfold CO
 have:=of_decide_eq_true h
 exact decide_eq_true (.inr (.inl this))
theorem GT {l:List UInt8} {c:UInt8} {r:List UInt8} (h:l.all Bq = true) (e:l = c :: r):48 ≤ c.toNat ∧ c.toNat ≤ 57:=by
 subst e
 rw [List.all_cons,Bool.and_eq_true] at h
 exact of_decide_eq_true h.1
theorem Rh {n:Int} (h1:-100000000000000 ≤ n) (h2:n ≤ 100000000000000):Lib.atoiAll (Lib.itoa n) = .ok n:=by
 unfold Lib.itoa
 by_cases h:n < 0
 ·rw [if_pos h]
  obtain ⟨d1,d2,d3⟩:=Rg n.natAbs (by omega)
  unfold Lib.atoiAll
  have e:(45:UInt8).toNat = 45:=rfl
  dsimp only
  rw [if_pos (.inr e)]
  have hm:Lib.parseMag (Lib.decDigits n.natAbs) = .ok n.natAbs:=by
   unfold Lib.parseMag
   rw [if_neg d3];exact d1
  rw [hm]
  dsimp only
  rw [if_neg (fun hh=>hh.1 e),if_neg (by omega),if_pos e]
  congr 1
  omega
 ·rw [if_neg h]
  obtain ⟨d1,d2,d3⟩:=Rg n.toNat (by omega)
  cases hc:Lib.decDigits n.toNat with
  | nil=>exact absurd hc d3
  | cons c r =>
    have hh:=GT d2 hc
    unfold Lib.atoiAll
    dsimp only
    rw [if_neg (by omega)]
    have hm:Lib.parseMag (c :: r) = .ok n.toNat:=by
     unfold Lib.parseMag
     rw [if_neg (by simp), ← hc]
     exact d1
    rw [hm]
    dsimp only
    rw [if_neg (by omega),if_neg (by omega),if_neg (by omega)]
    congr 1
    omega
def Vi (u:List UInt8):Prop:=∀ b r,u = b :: r → CO b = false
theorem OL (w u:List UInt8):L1 w (w ++ u) = (u,true):=by
 have h:w.isPrefixOf (w ++ u) = true:=by
  rw [List.isPrefixOf_iff_prefix]
  exact List.prefix_append w u
 unfold L1
 rw [if_pos h,List.drop_left]
theorem UN {a b:UInt8} {w u:List UInt8} (h:a ≠ b):L1 (a :: w) (b :: u) = (b :: u,false):=by
 unfold L1
 rw [if_neg (by
  rw [List.isPrefixOf_cons_cons]
  simp [h])]
theorem Wn {w t:List UInt8} (h:(L1 w t).2 = true):t = w ++ (L1 w t).1:=by
 unfold L1 at h ⊢
 split
 ·rename_i hp
  rw [List.isPrefixOf_iff_prefix] at hp
  obtain ⟨v,rfl⟩:=hp
  dsimp only
  rw [List.drop_left]
 ·rename_i hp
  rw [if_neg hp] at h
  cases h
theorem MO:∀ (k u:Nat),u < 10 ^ (k + 1) → (Lib.decDigits u).length ≤ k + 1
 | 0,u,h=>by
   rw [Lib.decDigits,dif_pos (by simpa using h)];simp
 | k + 1,u,h=>by
   rw [Lib.decDigits]
   by_cases h1:u < 10
   ·rw [dif_pos h1];simp
   ·rw [dif_neg h1,List.length_append,List.length_singleton]
    have:=MO k (u / 10) (by rw [Nat.pow_succ] at h;omega)
    omega
end Go.Proofs.YtiphlhoclaogjabGreatDoor
namespace Go.Proofs.YtiphlhoclaogjabGreatDoor
open Go Go.Av
attribute [local irreducible] D1 B5 D5 D3 DQ D7 E0 St.le B3 B6
set_option maxRecDepth 100000
theorem l7.bd {s:B8} (h:J1 s) {i:Nat} {c:C1} (hc:s.cols[i]? = some c) {v:Int} (hv:l7 s c v):-1099511627776 ≤ v ∧ v ≤ 100:=by
 rcases hv with ⟨_,h1⟩ | ⟨hk,n,rfl,hn⟩ | ⟨hk,h1⟩
 ·omega
 ·rcases h.col hc with ⟨_,rfl⟩ | ⟨_,hcc⟩ | ⟨_,nm,hm⟩
  ·cases hk
  ·obtain ⟨hf,hnm,hlen⟩:=h.lst hcc
   rw [x8 hnm,Cu hnm] at hn
   have:=(Aq hf).mem n hn
   omega
  ·have:=hm.kind;omega
 ·rcases h.col hc with ⟨_,rfl⟩ | ⟨_,rfl | rfl⟩ | ⟨_,nm,hm⟩
  ·cases hk
  ·cases hk
  ·cases hk
  ·have:=hm.low
   have:=hm.high
   rcases h1 with h1 | h1 <;> omega
theorem Hu {s:B8} (hd:J1 s) (l:List UInt8):∀ (n k:Nat) (x:List Int × Nat),k + n ≤ s.cols.length → (∀ y ∈ x.1, -1099511627776 ≤ y ∧ y ≤ 100) → (rowFrom l s k x n).1.length = x.1.length + n ∧ ∀ y ∈ (rowFrom l s k x n).1, -1099511627776 ≤ y ∧ y ≤ 100
 | 0,k,x,_,h=>⟨rfl,h⟩
 | n + 1,k,x,hk,h=>by
   have hc:s.cols[k]? = some (s.cols[k]'(by omega)):=List.getElem?_eq_getElem (by omega)
   obtain ⟨h1,h2⟩:=Hu hd l n (k + 1) (x.1 ++ [(Y5 l x.2 s k).1],(Y5 l x.2 s k).2) (by omega) (fun y hy=>by
    rcases List.mem_append.1 hy with hy | hy
    ·exact h y hy
    ·simp only [List.mem_singleton] at hy
     subst hy
     exact l7.bd hd hc (OJ hd l x.2 hc))
   rw [rowFrom]
   refine ⟨?_,h2⟩
   rw [h1,List.length_append,List.length_singleton]
   omega
theorem Wo {s:B8} (hd:J1 s) (l:List UInt8) (a:Nat):(T4 l a s).1.length = s.cols.length ∧ ∀ y ∈ (T4 l a s).1, -1099511627776 ≤ y ∧ y ≤ 100:=by
 have:=Hu hd l s.cols.length 0 ([],a) (by omega) (fun y hy=>by cases hy)
 unfold T4
 simpa using this
theorem Cy {E:Env} {n:Nat} {σ:St} (i:Nat) {l:List AV} (l':List AV) (hb:B0 σ.hp i = some (.box l)) (hn:Cv l l'):St.le E n σ (σ.set i (.box l')):=by
 unfold St.le
 rintro a w ⟨θ,h⟩
 obtain ⟨hlen,hel⟩:=hn.get
 obtain ⟨_,b,arr,ty,h1,h2,h3,h4⟩:=h.owns i _ hb
 have ht:=h.turn (v':=θ i) (b':=.box l') (w':=w) hb rfl rfl rfl (Nat.le_refl _) (fun _ _ _=>rfl) (fun k hk=>.inl hk) rfl fun le=>?_
 ·exact ⟨_,ht⟩
 ·refine ⟨b,arr,ty,by simp only [cx,C6];exact h1,h2,by omega,fun j x y hx hy=>?_⟩
  obtain ⟨x0,hx0⟩:=L7 hlen hx
  exact LL (hel j x0 x hx0 hx) ((h4 j x0 y hx0 hy).mono le)
def FS (s:B8) (kind:Int) (k:Nat):List Nat:=(List.range k).filter fun i=>decide ((I0 s i).kind = kind)
theorem Jp {s:B8} {kind:Int} {i:Nat}:i ∈ FS s kind s.cols.length ↔ i < s.cols.length ∧ (I0 s i).kind = kind:=by
 unfold FS
 rw [List.mem_filter,List.mem_range,decide_eq_true_eq]
theorem J1.two {s:B8} (h:J1 s):1 ≤ (FS s 2 s.cols.length).length ∧ 1 ≤ (FS s 3 s.cols.length).length:=by
 have hl:=h.lens
 obtain ⟨b,ms,h1,h2,h3,h4⟩:=h.cs
 have m2:1 ∈ FS s 2 s.cols.length:=by
  refine Jp.2 ⟨by omega,?_⟩
  have:s.cols[1]? = some Ed:=by rw [h1];cases b <;> rfl
  rw [show I0 s ((1:Nat):Int) = Ed from u4 (by simpa using this)]
  rfl
 have m3:(P8 b).length ∈ FS s 3 s.cols.length:=by
  have hm:ms[0]? = some (ms[0]'(by omega)):=List.getElem?_eq_getElem (by omega)
  have hc:s.cols[(P8 b).length]? = some (ms[0]'(by omega)):=by rw [h1,List.getElem?_append_right (Nat.le_refl _),Nat.sub_self];exact hm
  refine Jp.2 ⟨R0 hc,?_⟩
  rw [show I0 s (((P8 b).length:Nat):Int) = _ from u4 (by simpa using hc)]
  exact (h4 0 _ hm).kind
 exact ⟨List.length_pos_of_mem m2,List.length_pos_of_mem m3⟩
end Go.Proofs.YtiphlhoclaogjabGreatDoor
namespace Go.Proofs.YtiphlhoclaogjabGreatDoor
open Go Go.Av
attribute [local irreducible] D1 B5 D5 D3 DQ D7 E0 St.le B3 B6
set_option maxRecDepth 100000
def Pb (f g:Nat → Int) (L:List Nat):Prop:=∀ x ∈ L,∀ y ∈ L,f x = f y → g x = g y
instance (f g:Nat → Int) (L:List Nat):Decidable (Pb f g L):=by unfold Pb;infer_instance
theorem Ri (m:List (Key × AV)) (k:Key) (v:AV) (k':Key):X6 (W4 m k v) k' = if k = k' then some v else X6 m k':=by
 induction m with
 | nil=>unfold W4 X6;by_cases e:k = k' <;> simp [e]
 | cons p r ih =>
   obtain ⟨a,b⟩:=p
   unfold W4
   by_cases e:a = k
   ·rw [if_pos e]
    subst e
    unfold X6
    by_cases e2:a = k' <;> simp [e2]
   ·rw [if_neg e]
    unfold X6 at ih ⊢
    by_cases e2:a = k'
    ·have:¬ k = k':=fun h=>e (e2.trans h.symm)
     simp [e2,this]
    ·simp only [List.find?_cons,e2,decide_false]
     exact ih
theorem Jq {t:TypeDesc} {k:Key} {v:AV} (hk:AZ t k = true):∀ {m:List (Key × AV)},X7 t m → X7 t (W4 m k v)
 | [],_=>fun p hp=>by
   unfold W4 at hp
   rw [List.mem_singleton] at hp
   rw [hp];exact hk
 | (a,b) :: r,hm=>fun p hp=>by
   unfold W4 at hp
   split at hp
   ·rename_i e
    rcases List.mem_cons.1 hp with rfl | hp
    ·exact hm (a,b) (by simp)
    ·exact hm p (by simp [hp])
   ·rcases List.mem_cons.1 hp with rfl | hp
    ·exact hm (a,b) (by simp)
    ·exact Jq hk (m:=r) (fun q hq=>hm q (by simp [hq])) p hp
def UO (a:I8) (x:C1) (level:Int):Prop :=
 if level = 0 then x.opt = false ∧ ¬ (x.low < a.lo ∧ a.lo ≤ x.high) ∧ ¬ (x.low ≤ a.hi ∧ a.hi < x.high)
 else ((x.low < a.lo ∧ a.lo ≤ x.high) → a.lo.tmod (E1 x level) = 0) ∧ ((x.low ≤ a.hi ∧ a.hi < x.high) → (a.hi + 1).tmod (E1 x level) = 0)
instance (a:I8) (x:C1) (level:Int):Decidable (UO a x level):=by unfold UO;infer_instance
def aG (s:B8) (a:I8) (level:Int):Bool :=
 if a.op = 2 then decide (Pb (fun x=>o4 (D2 s (I0 s a.col)).1 (D2 s (I0 s a.col)).2 x level) (fun x=>ZU s a x) (P5 s a.col))
 else if a.op = 4 then decide (0 < level) else decide (UO a (I0 s a.col) level)
end Go.Proofs.YtiphlhoclaogjabGreatDoor
namespace Go.Proofs.YtiphlhoclaogjabGreatDoor
open Go Go.Av
attribute [local irreducible] D1 B5 D5 D3 DQ D7 E0 St.le B3 B6
set_option maxRecDepth 100000
def YW (s:B8) (a:I8):Nat → Nat → Nat
 | 0,n=>n
 | f + 1,n=>if aG s a n = true then n else YW s a f (n + 1)
def aH (s:B8) (a:I8):Nat:=YW s a (PX s a.col).toNat 0
def Pc (lv:Nat → Int) (lo:Nat):Nat → List Pk
 | 0=>[]
 | n + 1=>if 0 < lv lo then ⟨lo,lv lo⟩ :: Pc lv (lo + 1) n else Pc lv (lo + 1) n
def ar (s:B8) (l:List I8) (i:Nat):Int:=l.foldl (fun (m:Int) (a:I8)=>if a.col = (i:Int) then max m (aH s a:Int) else m) 0
def Vj (s:B8) (c:I8):List Pk:=if ML s c = 0 then Pc (ar s (YR c)) 0 s.cols.length else []
end Go.Proofs.YtiphlhoclaogjabGreatDoor
namespace Go.Proofs.YtiphlhoclaogjabGreatDoor
open Go Go.Av
attribute [local irreducible] D1 B5 D5 D3 DQ D7 E0 St.le B3 B6
set_option maxRecDepth 100000
def Kg (s:B8) (row:List Int):Prop:=row.length = s.cols.length ∧ ∀ (i:Nat) c,s.cols[i]? = some c → l7 s c (row.getD i 0)
theorem Hv {s:B8} (hd:J1 s) (l:List UInt8):∀ (n k:Nat) (x:List Int × Nat),k + n = s.cols.length → x.1.length = k → (∀ (i:Nat) c,i < k → s.cols[i]? = some c → l7 s c (x.1.getD i 0)) → Kg s (rowFrom l s k x n).1
 | 0,k,x,hk,hl,h=>by
   refine ⟨by show x.1.length = _;omega,fun i c hc=>h i c ?_ hc⟩
   have:=(List.getElem?_eq_some_iff.1 hc).1
   omega
 | n + 1,k,x,hk,hl,h=>by
   obtain ⟨c0,hc0⟩:∃ c,s.cols[k]? = some c:=⟨_,List.getElem?_eq_getElem (by omega)⟩
   refine Hv hd l n (k + 1) _ (by omega) (by simp [hl]) fun i c hi hc=>?_
   dsimp only
   by_cases e:i < k
   ·have:=h i c e hc
    rw [List.getD_eq_getElem?_getD] at this ⊢
    rw [List.getElem?_append_left (by omega)]
    exact this
   ·obtain rfl:i = k:=by omega
    rw [hc0] at hc
    cases hc
    rw [List.getD_eq_getElem?_getD,List.getElem?_append_right (by omega),hl,Nat.sub_self]
    exact OJ hd l x.2 hc0
theorem Wp {s:B8} (hd:J1 s) (l:List UInt8) (a:Nat):Kg s (T4 l a s).1 :=
 Hv hd l s.cols.length 0 ([],a) (by omega) rfl fun i c hi=>absurd hi (Nat.not_lt_zero _)
theorem l7.hold {s:B8} {c:C1} {v:Int} (h:l7 s c v):M0 s c v = true:=by
 unfold M0
 rcases h with ⟨hk,h1,h2⟩ | ⟨hk,n,rfl,hn⟩ | ⟨hk,h1⟩
 ·rw [if_pos hk];exact decide_eq_true (by omega)
 ·rw [if_neg (by omega),if_pos hk]
  obtain ⟨g1,g2,g3⟩:=Wl hn
  have:=(Hq g1 g2).1 (by rw [← Dj ⟨by omega,by omega,g1⟩];simpa using g3)
  rw [this,decide_eq_true (show (0:Int) ≤ n ∧ (n:Int) < (D2 s c).2.length by omega)]
  rfl
 ·rw [if_neg (by omega),if_neg (by omega)]
  rcases h1 with h1 | h1
  ·rw [decide_eq_true h1];rfl
  ·rw [h1.1,h1.2];simp
theorem Wq {s:B8} (hr:F8 s = 0) {row:List Int} (h:Kg s row):Cg s row = 0:=by
 unfold Cg
 rw [if_pos hr,if_pos]
 unfold I4
 rw [decide_eq_true h.1,Bool.true_and,Bool.not_eq_true',List.any_eq_false]
 rintro ⟨c,v⟩ hm
 obtain ⟨i,hi⟩:=List.mem_iff_getElem?.1 hm
 rw [List.getElem?_zip_eq_some] at hi
 have:=(h.2 i c hi.1)
 rw [O2 hi.2] at this
 unfold w9
 rw [this.hold]
 decide
end Go.Proofs.YtiphlhoclaogjabGreatDoor
namespace Go.Proofs.YtiphlhoclaogjabGreatDoor
open Go Go.Av
attribute [local irreducible] D1 B5 D5 D3 DQ D7 E0 St.le B3 B6
set_option maxRecDepth 100000
theorem Hw:∀ (r pre:List Code),scan pre r = none → ∀ c ∈ r,D0 c.name = true
 | [],_,_,c,hc=>by cases hc
 | x :: r,pre,h,c,hc=>by
   unfold scan at h
   split at h
   ·cases h
   ·rename_i hn
    split at h
    ·cases h
    ·split at h
     ·cases h
     ·rcases List.mem_cons.1 hc with rfl | hc
      ·cases hb:D0 c.name
       ·exact absurd hb hn
       ·rfl
      ·exact Hw r _ h c hc
theorem CP:∀ (r pre:List Code),scan pre r ≠ some 0
 | [],_=>by unfold scan;exact fun h=>by cases h
 | x :: r,pre=>by
   unfold scan
   split
   ·exact fun h=>by cases h
   ·split
    ·exact fun h=>by cases h
    ·split
     ·exact fun h=>by cases h
     ·exact CP r _
theorem El {nm:List UInt8} {cs:List Code} (h:chk nm cs = 0):∀ c ∈ cs,D0 c.name = true:=by
 unfold chk at h
 split at h
 ·cases h
 split at h
 ·cases h
 split at h
 ·cases h
 cases hs:scan [] cs with
 | some e =>
   rw [hs] at h
   dsimp only at h
   subst h
   exact absurd hs (CP cs [])
 | none=>exact Hw cs [] hs
theorem Ar {l:List UInt8} (h:D0 l = true):l.length ≤ 16:=by
 unfold D0 at h
 simp only [Bool.and_eq_true,decide_eq_true_eq] at h
 exact h.1.1.1
theorem UP {s:B8} (hr:F8 s = 0) {i:Nat} {c:C1} (hc:s.cols[i]? = some c):D0 c.name = true:=by
 obtain ⟨_,_,_,h4,_⟩:=F7 hr
 have:=h4 i c hc
 unfold colE at this
 split at this
 ·cases this
 ·rename_i hn
  cases hb:D0 c.name
  ·exact absurd hb hn
  ·rfl
end Go.Proofs.YtiphlhoclaogjabGreatDoor
namespace Go.Proofs.YtiphlhoclaogjabGreatDoor
open Go Go.Av
attribute [local irreducible] D1 B5 D5 D3 DQ D7 E0 St.le B3 B6
set_option maxRecDepth 100000
theorem Hx {α:Type} {p:α → Bool}:∀ {l:List α} {k:Int} {i:Nat} {x:α},l[i]? = some x → p x = true → (∀ j y,j < i → l[j]? = some y → p y = false) → H5 p l k = k + i
 | [],k,i,x,h,_,_=>by simp at h
 | a :: r,k,0,x,h,hx,_=>by
   simp at h;subst h
   unfold H5
   rw [if_pos hx];omega
 | a :: r,k,i + 1,x,h,hx,hj=>by
   have ha:=hj 0 a (by omega) rfl
   unfold H5
   rw [if_neg (by rw [ha];exact Bool.false_ne_true),Hx (k:=k + 1) (by simpa using h) hx (fun j y hji hy=>hj (j + 1) y (by omega) (by simpa using hy))]
   omega
theorem MP:∀ (r pre:List Code),scan pre r = none → ∀ (i:Nat) (c:Code),r[i]? = some c → c.name ∉ pre.map (·.name) ∧ ∀ (j:Nat) (d:Code),j < i → r[j]? = some d → d.name ≠ c.name
 | [],_,_,i,c,hc=>by simp at hc
 | x :: r,pre,h,i,c,hc=>by
   unfold scan at h
   split at h
   ·cases h
   ·split at h
    ·cases h
    ·rename_i hn
     split at h
     ·cases h
     ·cases i with
      | zero =>
        simp at hc;subst hc
        exact ⟨hn,fun j d hj=>by omega⟩
      | succ i =>
        obtain ⟨h1,h2⟩:=MP r _ h i c (by simpa using hc)
        rw [List.map_append,List.mem_append,not_or] at h1
        refine ⟨h1.1,fun j d hj hd e=>?_⟩
        cases j with
        | zero =>
          simp at hd;subst hd
          exact h1.2 (by simp [e])
        | succ j=>exact h2 j d (by omega) (by simpa using hd) e
theorem Rj {nm:List UInt8} {cs:List Code} (h:chk nm cs = 0):scan [] cs = none:=by
 unfold chk at h
 split at h
 ·cases h
 split at h
 ·cases h
 split at h
 ·cases h
 cases hs:scan [] cs with
 | some e =>
   rw [hs] at h
   dsimp only at h
   subst h
   exact absurd hs (CP cs [])
 | none=>rfl
theorem Rk {n:List UInt8} (h:D0 n = true):n.all CO = true ∧ n ∉ words ∧ ∃ a r,n = a :: r ∧ 97 ≤ a.toNat ∧ a.toNat ≤ 122:=by
 unfold D0 at h
 simp only [Bool.and_eq_true,Bool.not_eq_true',decide_eq_false_iff_not] at h
 obtain ⟨⟨⟨_,h1⟩,h2⟩,h3⟩:=h
 refine ⟨h2,h3,?_⟩
 cases n with
 | nil=>cases h1
 | cons a r=>exact ⟨a,r,rfl,of_decide_eq_true h1⟩
end Go.Proofs.YtiphlhoclaogjabGreatDoor
