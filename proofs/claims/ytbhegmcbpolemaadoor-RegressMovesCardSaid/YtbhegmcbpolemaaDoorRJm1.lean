/- Sums of products, by the program. -/
import Derived.Test.YtbhegmcbpolemaaDoorRJl5
import Derived.Test.YtbhegmcbpolemaaDoorRGe1
set_option linter.unusedVariables false
set_option linter.unnecessarySimpa false
set_option linter.unusedSimpArgs false
namespace Go.Proofs.YtbhegmcbpolemaaDoor
open Go Go.Av
attribute [local irreducible] E2 B3 F6 E9 DQ G2 H3 St.le B4 D7
set_option maxRecDepth 100000
def I8 (n:Nat) (g:Nat → Int):List Int:=(List.range n).map g
def c9 (n:Nat) (f:Nat → Nat → Int):List (List Int):=(List.range n).map fun a=>I8 n (f a)
theorem Ex (n:Nat) (g:Nat → Int):(I8 n g).length = n:=by simp [I8]
theorem Pd (n:Nat) (f:Nat → Nat → Int):(c9 n f).length = n:=by simp [c9]
theorem Ls {n b:Nat} (g:Nat → Int) (h:b < n):(I8 n g)[b]? = some (g b):=by unfold I8;rw [List.getElem?_map,List.getElem?_range h];rfl
theorem Qa {n a:Nat} (f:Nat → Nat → Int) (h:a < n):(c9 n f)[a]? = some (I8 n (f a)):=by unfold c9;rw [List.getElem?_map,List.getElem?_range h];rfl
theorem AE {α:Type} {n:Nat} {f g:Nat → α} (h:∀ i,i < n → f i = g i):(List.range n).map f = (List.range n).map g:=List.map_congr_left fun i hi=>h i (List.mem_range.1 hi)
theorem Y2 {n:Nat} {f g:Nat → Int} (h:∀ b,b < n → f b = g b):I8 n f = I8 n g:=AE h
theorem Fq {n:Nat} {f g:Nat → Nat → Int} (h:∀ a b,a < n → b < n → f a b = g a b):c9 n f = c9 n g:=AE fun a ha=>Y2 fun b hb=>h a b ha hb
theorem CM {α:Type} {n v:Nat} {f g:Nat → α} (h1:∀ i,i < n → i ≠ v → f i = g i):((List.range n).map f).set v (g v) = (List.range n).map g:=by
 refine List.ext_getElem? fun i=>?_
 rw [List.getElem?_set]
 split
 ·rename_i e
  subst e
  split
  ·rename_i hl
   rw [List.getElem?_map,List.getElem?_range (by simpa using hl)];rfl
  ·rename_i hl
   rw [List.getElem?_map,List.getElem?_eq_none (by simpa using hl)];rfl
 ·rename_i e
  rw [List.getElem?_map,List.getElem?_map]
  by_cases hi:i < n
  ·rw [List.getElem?_range hi,Option.map_some,Option.map_some,h1 i hi (Ne.symm e)]
  ·rw [List.getElem?_eq_none (by simpa using hi)];rfl
theorem DW (l:List (List Int)) (n:Nat):C9 l n = c9 n fun a b=>C0 l fun r=>r.getD a 0 * r.getD b 0:=rfl
abbrev v8 (p:List (List Int)):List (List AV):=p.map N7
theorem Pe {p:List (List Int)}:∀ el ∈ v8 p,∀ x ∈ el,JD x = true:=by
 intro el hel x hx
 obtain ⟨r,_,rfl⟩:=List.mem_map.1 hel
 obtain rfl:=List.mem_singleton.1 hx
 rfl
theorem Nm (p:List (List Int)):(v8 p).map (·.map DV) = p.map fun r=>[B8 r]:=by rw [List.map_map];rfl
theorem Nn {p:List (List Int)} {n:Nat} (hp:p.length = n):O3 p n n = v8 p:=by
 unfold O3
 rw [Nat.sub_self,List.replicate_zero,List.append_nil,List.take_of_length_le (by omega)]
theorem q9 {x y:Int} (hx:-1000000 ≤ x ∧ x ≤ 1000000) (hy:-1000000 ≤ y ∧ y ≤ 1000000):-1000000000000 ≤ x * y ∧ x * y ≤ 1000000000000:=by
 have h:(x * y).natAbs ≤ 1000000 * 1000000:=by
  rw [Int.natAbs_mul]
  exact Nat.mul_le_mul (by omega) (by omega)
 omega
theorem JG {l:List (List Int)} {i a b n:Nat} (hl:l.length ≤ 200) (hr:∀ r ∈ l,r.length = n ∧ ∀ x ∈ r, -1000000 ≤ x ∧ x ≤ 1000000):-200000000000000 ≤ C0 (l.take i) (fun r=>r.getD a 0 * r.getD b 0) ∧ C0 (l.take i) (fun r=>r.getD a 0 * r.getD b 0) ≤ 200000000000000:=by
 have hg:∀ (r:List Int) (k:Nat),(∀ x ∈ r, -1000000 ≤ x ∧ x ≤ 1000000) → -1000000 ≤ r.getD k 0 ∧ r.getD k 0 ≤ 1000000:=fun r k h=>by
  rw [List.getD_eq_getElem?_getD]
  cases e:r[k]? with
  | none=>simp
  | some x=>exact h x (List.mem_of_getElem? e)
 have h1:=p9 (l:=l.take i) (f:=fun r=>r.getD a 0 * r.getD b 0) (B:=1000000000000) fun r hr2=>by
  have:=(hr r (List.mem_of_mem_take hr2)).2
  have:=q9 (hg r a this) (hg r b this)
  omega
 have h2:(l.take i).length ≤ 200:=by rw [List.length_take];omega
 omega
def P6 (l:List (List Int)) (i:Nat) (r:List Int) (u a b:Nat):Int:=C0 (l.take i) (fun r=>r.getD a 0 * r.getD b 0) + if a < u then r.getD a 0 * r.getD b 0 else 0
def K9 (l:List (List Int)) (i:Nat) (r:List Int) (u v b:Nat):Int:=C0 (l.take i) (fun r=>r.getD u 0 * r.getD b 0) + if b < v then r.getD u 0 * r.getD b 0 else 0
theorem RG (l:List (List Int)) (i n:Nat) (r:List Int):c9 n (P6 l i r 0) = C9 (l.take i) n:=by
 rw [DW];exact Fq fun a b _ _=>by unfold P6;rw [if_neg (by omega),Int.add_zero]
theorem RH {l:List (List Int)} {i n:Nat} {r:List Int} (h:l[i]? = some r):c9 n (P6 l i r n) = C9 (l.take (i + 1)) n:=by
 rw [DW];exact Fq fun a b ha _=>by unfold P6;rw [if_pos ha,Y1 h]
theorem Qb (l:List (List Int)) (i n u:Nat) (r:List Int):I8 n (K9 l i r u 0) = I8 n (P6 l i r u u):=Y2 fun b _=>by unfold K9 P6;rw [if_neg (by omega),if_neg (by omega)]
theorem Np {l:List (List Int)} {i n u:Nat} {r:List Int}:(v8 (c9 n (P6 l i r u))).set u (N7 (I8 n (K9 l i r u n))) = v8 (c9 n (P6 l i r (u + 1))):=by
 have e:I8 n (K9 l i r u n) = I8 n (P6 l i r (u + 1) u):=Y2 fun b hb=>by unfold K9 P6;rw [if_pos hb,if_pos (by omega)]
 rw [e]
 show (((List.range n).map fun a=>I8 n (P6 l i r u a)).map N7).set u _ = ((List.range n).map fun a=>I8 n (P6 l i r (u + 1) a)).map N7
 rw [List.map_map,List.map_map]
 exact CM (f:=N7 ∘ fun a=>I8 n (P6 l i r u a)) (g:=N7 ∘ fun a=>I8 n (P6 l i r (u + 1) a)) fun a _ hne=>by
  show N7 _ = N7 _
  congr 1
  exact Y2 fun b _=>by
   unfold P6
   congr 1
   by_cases h:a < u
   ·rw [if_pos h,if_pos (by omega)]
   ·rw [if_neg h,if_neg (by omega)]
theorem Lt {l:List (List Int)} {i n u v:Nat} {r:List Int}:((I8 n (K9 l i r u v)).map D9).set v (D9 (K9 l i r u (v + 1) v)) = (I8 n (K9 l i r u (v + 1))).map D9:=by
 rw [← List.map_set]
 congr 1
 exact CM (f:=K9 l i r u v) (g:=K9 l i r u (v + 1)) fun b _ hne=>by
  unfold K9
  congr 1
  by_cases h:b < v
  ·rw [if_pos h,if_pos (by omega)]
  ·rw [if_neg h,if_neg (by omega)]
end Go.Proofs.YtbhegmcbpolemaaDoor
