/- Plain lists: the first error, the first place, and what was passed. -/
import Derived.Test.YtbhegmcbpolemaaDoorTAvTy
import Derived.Test.YtbhegmcbpolemaaDoorTJl5
set_option linter.unusedVariables false
set_option linter.unnecessarySimpa false
set_option linter.unusedSimpArgs false
namespace Go.Proofs.YtbhegmcbpolemaaDoor
open Go Go.Av
attribute [local irreducible] E4 B6 F1 E7 DQ F6 F9 St.le B5 D4
set_option maxRecDepth 100000
theorem Nw {α:Type} {l:List α} {k:Nat} {x:α} (h:l[k]? = some x):l.drop k = x :: l.drop (k + 1):=by
 obtain ⟨h1,h2⟩:=List.getElem?_eq_some_iff.1 h
 rw [List.drop_eq_getElem_cons h1,h2]
theorem CY {α:Type} {l:List α} {k:Nat} {x:α} (h:l[k]? = some x):l.take (k + 1) = l.take k ++ [x]:=by
 rw [List.take_add_one,h];rfl
def BK {α:Type} (p:α → Bool):List α → Int → Int
 | [],_=>-1
 | x :: r,k=>if p x = true then k else BK p r (k + 1)
theorem HS {α:Type} (p:α → Bool):∀ (l:List α) (k:Int),0 ≤ k → decide (0 ≤ BK p l k) = l.any p
 | [],k,_=>by simp [BK]
 | x :: r,k,h=>by
   unfold BK
   by_cases hp:p x = true
   ·rw [if_pos hp];simp [hp,h]
   ·rw [if_neg hp,HS p r (k + 1) (by omega)]
    simp [hp]
end Go.Proofs.YtbhegmcbpolemaaDoor
namespace Go.Proofs.YtbhegmcbpolemaaDoor
open Go Go.Av
attribute [local irreducible] E4 B6 F1 E7 DQ F6 F9 St.le B5 D4
set_option maxRecDepth 100000
def E5 (n:Nat) (g:Nat → Int):List Int:=(List.range n).map g
def Z0 (n:Nat) (f:Nat → Nat → Int):List (List Int):=(List.range n).map fun a=>E5 n (f a)
theorem U8 (n:Nat) (g:Nat → Int):(E5 n g).length = n:=by simp [E5]
theorem Ou (n:Nat) (f:Nat → Nat → Int):(Z0 n f).length = n:=by simp [Z0]
theorem EV {n b:Nat} (g:Nat → Int) (h:b < n):(E5 n g)[b]? = some (g b):=by unfold E5;rw [List.getElem?_map,List.getElem?_range h];rfl
theorem QD {n a:Nat} (f:Nat → Nat → Int) (h:a < n):(Z0 n f)[a]? = some (E5 n (f a)):=by unfold Z0;rw [List.getElem?_map,List.getElem?_range h];rfl
theorem x8 {α:Type} {n:Nat} {f g:Nat → α} (h:∀ i,i < n → f i = g i):(List.range n).map f = (List.range n).map g:=List.map_congr_left fun i hi=>h i (List.mem_range.1 hi)
theorem P1 {n:Nat} {f g:Nat → Int} (h:∀ b,b < n → f b = g b):E5 n f = E5 n g:=x8 h
theorem Ft {n:Nat} {f g:Nat → Nat → Int} (h:∀ a b,a < n → b < n → f a b = g a b):Z0 n f = Z0 n g:=x8 fun a ha=>P1 fun b hb=>h a b ha hb
theorem x9 {α:Type} {n v:Nat} {f g:Nat → α} (h1:∀ i,i < n → i ≠ v → f i = g i):((List.range n).map f).set v (g v) = (List.range n).map g:=by
 refine List.ext_getElem? fun i=>?_
 rw [List.getElem?_set]
 split
 ·rename_i e
  subst e
  split
  ·rename_i hl
   rw [List.getElem?_map,List.getElem?_range (by simpa using hl)];rfl
  ·rename_i hl
   rw [List.getElem?_map,List.getElem?_eq_none (by simpa using hl)];rfl
 ·rename_i e
  rw [List.getElem?_map,List.getElem?_map]
  by_cases hi:i < n
  ·rw [List.getElem?_range hi,Option.map_some,Option.map_some,h1 i hi (Ne.symm e)]
  ·rw [List.getElem?_eq_none (by simpa using hi)];rfl
theorem DS (l:List (List Int)) (n:Nat):G9 l n = Z0 n fun a b=>C8 l fun r=>r.getD a 0 * r.getD b 0:=rfl
abbrev u4 (p:List (List Int)):List (List AV):=p.map N7
theorem Ov {p:List (List Int)}:∀ el ∈ u4 p,∀ x ∈ el,Ij x = true:=by
 intro el hel x hx
 obtain ⟨r,_,rfl⟩:=List.mem_map.1 hel
 obtain rfl:=List.mem_singleton.1 hx
 rfl
theorem NB (p:List (List Int)):(u4 p).map (·.map DR) = p.map fun r=>[B8 r]:=by rw [List.map_map];rfl
theorem NC {p:List (List Int)} {n:Nat} (hp:p.length = n):O1 p n n = u4 p:=by
 unfold O1
 rw [Nat.sub_self,List.replicate_zero,List.append_nil,List.take_of_length_le (by omega)]
theorem p6 {x y:Int} (hx:-1000000 ≤ x ∧ x ≤ 1000000) (hy:-1000000 ≤ y ∧ y ≤ 1000000):-1000000000000 ≤ x * y ∧ x * y ≤ 1000000000000:=by
 have h:(x * y).natAbs ≤ 1000000 * 1000000:=by
  rw [Int.natAbs_mul]
  exact Nat.mul_le_mul (by omega) (by omega)
 omega
theorem Io {l:List (List Int)} {i a b n:Nat} (hl:l.length ≤ 200) (hr:∀ r ∈ l,r.length = n ∧ ∀ x ∈ r, -1000000 ≤ x ∧ x ≤ 1000000):-200000000000000 ≤ C8 (l.take i) (fun r=>r.getD a 0 * r.getD b 0) ∧ C8 (l.take i) (fun r=>r.getD a 0 * r.getD b 0) ≤ 200000000000000:=by
 have hg:∀ (r:List Int) (k:Nat),(∀ x ∈ r, -1000000 ≤ x ∧ x ≤ 1000000) → -1000000 ≤ r.getD k 0 ∧ r.getD k 0 ≤ 1000000:=fun r k h=>by
  rw [List.getD_eq_getElem?_getD]
  cases e:r[k]? with
  | none=>simp
  | some x=>exact h x (List.mem_of_getElem? e)
 have h1:=p5 (l:=l.take i) (f:=fun r=>r.getD a 0 * r.getD b 0) (B:=1000000000000) fun r hr2=>by
  have:=(hr r (List.mem_of_mem_take hr2)).2
  have:=p6 (hg r a this) (hg r b this)
  omega
 have h2:(l.take i).length ≤ 200:=by rw [List.length_take];omega
 omega
def P8 (l:List (List Int)) (i:Nat) (r:List Int) (u a b:Nat):Int:=C8 (l.take i) (fun r=>r.getD a 0 * r.getD b 0) + if a < u then r.getD a 0 * r.getD b 0 else 0
def K5 (l:List (List Int)) (i:Nat) (r:List Int) (u v b:Nat):Int:=C8 (l.take i) (fun r=>r.getD u 0 * r.getD b 0) + if b < v then r.getD u 0 * r.getD b 0 else 0
theorem Qq (l:List (List Int)) (i n:Nat) (r:List Int):Z0 n (P8 l i r 0) = G9 (l.take i) n:=by
 rw [DS];exact Ft fun a b _ _=>by unfold P8;rw [if_neg (by omega),Int.add_zero]
theorem Qr {l:List (List Int)} {i n:Nat} {r:List Int} (h:l[i]? = some r):Z0 n (P8 l i r n) = G9 (l.take (i + 1)) n:=by
 rw [DS];exact Ft fun a b ha _=>by unfold P8;rw [if_pos ha,O9 h]
theorem QE (l:List (List Int)) (i n u:Nat) (r:List Int):E5 n (K5 l i r u 0) = E5 n (P8 l i r u u):=P1 fun b _=>by unfold K5 P8;rw [if_neg (by omega),if_neg (by omega)]
theorem ND {l:List (List Int)} {i n u:Nat} {r:List Int}:(u4 (Z0 n (P8 l i r u))).set u (N7 (E5 n (K5 l i r u n))) = u4 (Z0 n (P8 l i r (u + 1))):=by
 have e:E5 n (K5 l i r u n) = E5 n (P8 l i r (u + 1) u):=P1 fun b hb=>by unfold K5 P8;rw [if_pos hb,if_pos (by omega)]
 rw [e]
 show (((List.range n).map fun a=>E5 n (P8 l i r u a)).map N7).set u _ = ((List.range n).map fun a=>E5 n (P8 l i r (u + 1) a)).map N7
 rw [List.map_map,List.map_map]
 exact x9 (f:=N7 ∘ fun a=>E5 n (P8 l i r u a)) (g:=N7 ∘ fun a=>E5 n (P8 l i r (u + 1) a)) fun a _ hne=>by
  show N7 _ = N7 _
  congr 1
  exact P1 fun b _=>by
   unfold P8
   congr 1
   by_cases h:a < u
   ·rw [if_pos h,if_pos (by omega)]
   ·rw [if_neg h,if_neg (by omega)]
theorem LJ {l:List (List Int)} {i n u v:Nat} {r:List Int}:((E5 n (K5 l i r u v)).map C3).set v (C3 (K5 l i r u (v + 1) v)) = (E5 n (K5 l i r u (v + 1))).map C3:=by
 rw [← List.map_set]
 congr 1
 exact x9 (f:=K5 l i r u v) (g:=K5 l i r u (v + 1)) fun b _ hne=>by
  unfold K5
  congr 1
  by_cases h:b < v
  ·rw [if_pos h,if_pos (by omega)]
  ·rw [if_neg h,if_neg (by omega)]
end Go.Proofs.YtbhegmcbpolemaaDoor
