/- Sums of products, by the program. -/
import Derived.Test.YtbhegmcbpolemaaDoorQJl5
import Derived.Test.YtbhegmcbpolemaaDoorQGe1
set_option linter.unusedVariables false
set_option linter.unnecessarySimpa false
set_option linter.unusedSimpArgs false
namespace Go.Proofs.YtbhegmcbpolemaaDoor
open Go Go.Av
attribute [local irreducible] E2 B3 G0 F3 DQ H4 H7 St.le B7 E1
set_option maxRecDepth 100000
def I1 (n:Nat) (g:Nat → Int):List Int:=(List.range n).map g
def Y8 (n:Nat) (f:Nat → Nat → Int):List (List Int):=(List.range n).map fun a=>I1 n (f a)
theorem EW (n:Nat) (g:Nat → Int):(I1 n g).length = n:=by simp [I1]
theorem Oj (n:Nat) (f:Nat → Nat → Int):(Y8 n f).length = n:=by simp [Y8]
theorem LF {n b:Nat} (g:Nat → Int) (h:b < n):(I1 n g)[b]? = some (g b):=by unfold I1;rw [List.getElem?_map,List.getElem?_range h];rfl
theorem Ps {n a:Nat} (f:Nat → Nat → Int) (h:a < n):(Y8 n f)[a]? = some (I1 n (f a)):=by unfold Y8;rw [List.getElem?_map,List.getElem?_range h];rfl
theorem w9 {α:Type} {n:Nat} {f g:Nat → α} (h:∀ i,i < n → f i = g i):(List.range n).map f = (List.range n).map g:=List.map_congr_left fun i hi=>h i (List.mem_range.1 hi)
theorem W8 {n:Nat} {f g:Nat → Int} (h:∀ b,b < n → f b = g b):I1 n f = I1 n g:=w9 h
theorem FQ {n:Nat} {f g:Nat → Nat → Int} (h:∀ a b,a < n → b < n → f a b = g a b):Y8 n f = Y8 n g:=w9 fun a ha=>W8 fun b hb=>h a b ha hb
theorem Bp {α:Type} {n v:Nat} {f g:Nat → α} (h1:∀ i,i < n → i ≠ v → f i = g i):((List.range n).map f).set v (g v) = (List.range n).map g:=by
 refine List.ext_getElem? fun i=>?_
 rw [List.getElem?_set]
 split
 ·rename_i e
  subst e
  split
  ·rename_i hl
   rw [List.getElem?_map,List.getElem?_range (by simpa using hl)];rfl
  ·rename_i hl
   rw [List.getElem?_map,List.getElem?_eq_none (by simpa using hl)];rfl
 ·rename_i e
  rw [List.getElem?_map,List.getElem?_map]
  by_cases hi:i < n
  ·rw [List.getElem?_range hi,Option.map_some,Option.map_some,h1 i hi (Ne.symm e)]
  ·rw [List.getElem?_eq_none (by simpa using hi)];rfl
theorem Cz (l:List (List Int)) (n:Nat):D0 l n = Y8 n fun a b=>C1 l fun r=>r.getD a 0 * r.getD b 0:=rfl
abbrev s6 (p:List (List Int)):List (List AV):=p.map N1
theorem Ok {p:List (List Int)}:∀ el ∈ s6 p,∀ x ∈ el,IQ x = true:=by
 intro el hel x hx
 obtain ⟨r,_,rfl⟩:=List.mem_map.1 hel
 obtain rfl:=List.mem_singleton.1 hx
 rfl
theorem Mx (p:List (List Int)):(s6 p).map (·.map Cy) = p.map fun r=>[B9 r]:=by rw [List.map_map];rfl
theorem My {p:List (List Int)} {n:Nat} (hp:p.length = n):N6 p n n = s6 p:=by
 unfold N6
 rw [Nat.sub_self,List.replicate_zero,List.append_nil,List.take_of_length_le (by omega)]
theorem o6 {x y:Int} (hx:-1000000 ≤ x ∧ x ≤ 1000000) (hy:-1000000 ≤ y ∧ y ≤ 1000000):-1000000000000 ≤ x * y ∧ x * y ≤ 1000000000000:=by
 have h:(x * y).natAbs ≤ 1000000 * 1000000:=by
  rw [Int.natAbs_mul]
  exact Nat.mul_le_mul (by omega) (by omega)
 omega
theorem IV {l:List (List Int)} {i a b n:Nat} (hl:l.length ≤ 200) (hr:∀ r ∈ l,r.length = n ∧ ∀ x ∈ r, -1000000 ≤ x ∧ x ≤ 1000000):-200000000000000 ≤ C1 (l.take i) (fun r=>r.getD a 0 * r.getD b 0) ∧ C1 (l.take i) (fun r=>r.getD a 0 * r.getD b 0) ≤ 200000000000000:=by
 have hg:∀ (r:List Int) (k:Nat),(∀ x ∈ r, -1000000 ≤ x ∧ x ≤ 1000000) → -1000000 ≤ r.getD k 0 ∧ r.getD k 0 ≤ 1000000:=fun r k h=>by
  rw [List.getD_eq_getElem?_getD]
  cases e:r[k]? with
  | none=>simp
  | some x=>exact h x (List.mem_of_getElem? e)
 have h1:=b8 (l:=l.take i) (f:=fun r=>r.getD a 0 * r.getD b 0) (B:=1000000000000) fun r hr2=>by
  have:=(hr r (List.mem_of_mem_take hr2)).2
  have:=o6 (hg r a this) (hg r b this)
  omega
 have h2:(l.take i).length ≤ 200:=by rw [List.length_take];omega
 omega
def O9 (l:List (List Int)) (i:Nat) (r:List Int) (u a b:Nat):Int:=C1 (l.take i) (fun r=>r.getD a 0 * r.getD b 0) + if a < u then r.getD a 0 * r.getD b 0 else 0
def K6 (l:List (List Int)) (i:Nat) (r:List Int) (u v b:Nat):Int:=C1 (l.take i) (fun r=>r.getD u 0 * r.getD b 0) + if b < v then r.getD u 0 * r.getD b 0 else 0
theorem Qb (l:List (List Int)) (i n:Nat) (r:List Int):Y8 n (O9 l i r 0) = D0 (l.take i) n:=by
 rw [Cz];exact FQ fun a b _ _=>by unfold O9;rw [if_neg (by omega),Int.add_zero]
theorem Qc {l:List (List Int)} {i n:Nat} {r:List Int} (h:l[i]? = some r):Y8 n (O9 l i r n) = D0 (l.take (i + 1)) n:=by
 rw [Cz];exact FQ fun a b ha _=>by unfold O9;rw [if_pos ha,W7 h]
theorem Pt (l:List (List Int)) (i n u:Nat) (r:List Int):I1 n (K6 l i r u 0) = I1 n (O9 l i r u u):=W8 fun b _=>by unfold K6 O9;rw [if_neg (by omega),if_neg (by omega)]
theorem Mz {l:List (List Int)} {i n u:Nat} {r:List Int}:(s6 (Y8 n (O9 l i r u))).set u (N1 (I1 n (K6 l i r u n))) = s6 (Y8 n (O9 l i r (u + 1))):=by
 have e:I1 n (K6 l i r u n) = I1 n (O9 l i r (u + 1) u):=W8 fun b hb=>by unfold K6 O9;rw [if_pos hb,if_pos (by omega)]
 rw [e]
 show (((List.range n).map fun a=>I1 n (O9 l i r u a)).map N1).set u _ = ((List.range n).map fun a=>I1 n (O9 l i r (u + 1) a)).map N1
 rw [List.map_map,List.map_map]
 exact Bp (f:=N1 ∘ fun a=>I1 n (O9 l i r u a)) (g:=N1 ∘ fun a=>I1 n (O9 l i r (u + 1) a)) fun a _ hne=>by
  show N1 _ = N1 _
  congr 1
  exact W8 fun b _=>by
   unfold O9
   congr 1
   by_cases h:a < u
   ·rw [if_pos h,if_pos (by omega)]
   ·rw [if_neg h,if_neg (by omega)]
theorem LG {l:List (List Int)} {i n u v:Nat} {r:List Int}:((I1 n (K6 l i r u v)).map C9).set v (C9 (K6 l i r u (v + 1) v)) = (I1 n (K6 l i r u (v + 1))).map C9:=by
 rw [← List.map_set]
 congr 1
 exact Bp (f:=K6 l i r u v) (g:=K6 l i r u (v + 1)) fun b _ hne=>by
  unfold K6
  congr 1
  by_cases h:b < v
  ·rw [if_pos h,if_pos (by omega)]
  ·rw [if_neg h,if_neg (by omega)]
end Go.Proofs.YtbhegmcbpolemaaDoor
