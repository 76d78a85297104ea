/- Sums of products, by the program. -/
import Derived.Test.YtbhegmcbpolemaaDoorSJl5
import Derived.Test.YtbhegmcbpolemaaDoorSGe1
set_option linter.unusedVariables false
set_option linter.unnecessarySimpa false
set_option linter.unusedSimpArgs false
namespace Go.Proofs.YtbhegmcbpolemaaDoor
open Go Go.Av
attribute [local irreducible] E3 B5 F2 F0 DQ F5 G8 St.le B6 D3
set_option maxRecDepth 100000
def I3 (n:Nat) (g:Nat → Int):List Int:=(List.range n).map g
def b8 (n:Nat) (f:Nat → Nat → Int):List (List Int):=(List.range n).map fun a=>I3 n (f a)
theorem FL (n:Nat) (g:Nat → Int):(I3 n g).length = n:=by simp [I3]
theorem Pi (n:Nat) (f:Nat → Nat → Int):(b8 n f).length = n:=by simp [b8]
theorem Lo {n b:Nat} (g:Nat → Int) (h:b < n):(I3 n g)[b]? = some (g b):=by unfold I3;rw [List.getElem?_map,List.getElem?_range h];rfl
theorem Qm {n a:Nat} (f:Nat → Nat → Int) (h:a < n):(b8 n f)[a]? = some (I3 n (f a)):=by unfold b8;rw [List.getElem?_map,List.getElem?_range h];rfl
theorem AN {α:Type} {n:Nat} {f g:Nat → α} (h:∀ i,i < n → f i = g i):(List.range n).map f = (List.range n).map g:=List.map_congr_left fun i hi=>h i (List.mem_range.1 hi)
theorem X5 {n:Nat} {f g:Nat → Int} (h:∀ b,b < n → f b = g b):I3 n f = I3 n g:=AN h
theorem GH {n:Nat} {f g:Nat → Nat → Int} (h:∀ a b,a < n → b < n → f a b = g a b):b8 n f = b8 n g:=AN fun a ha=>X5 fun b hb=>h a b ha hb
theorem CV {α:Type} {n v:Nat} {f g:Nat → α} (h1:∀ i,i < n → i ≠ v → f i = g i):((List.range n).map f).set v (g v) = (List.range n).map g:=by
 refine List.ext_getElem? fun i=>?_
 rw [List.getElem?_set]
 split
 ·rename_i e
  subst e
  split
  ·rename_i hl
   rw [List.getElem?_map,List.getElem?_range (by simpa using hl)];rfl
  ·rename_i hl
   rw [List.getElem?_map,List.getElem?_eq_none (by simpa using hl)];rfl
 ·rename_i e
  rw [List.getElem?_map,List.getElem?_map]
  by_cases hi:i < n
  ·rw [List.getElem?_range hi,Option.map_some,Option.map_some,h1 i hi (Ne.symm e)]
  ·rw [List.getElem?_eq_none (by simpa using hi)];rfl
theorem Di (l:List (List Int)) (n:Nat):D2 l n = b8 n fun a b=>C0 l fun r=>r.getD a 0 * r.getD b 0:=rfl
abbrev x6 (p:List (List Int)):List (List AV):=p.map N4
theorem Pj {p:List (List Int)}:∀ el ∈ x6 p,∀ x ∈ el,JD x = true:=by
 intro el hel x hx
 obtain ⟨r,_,rfl⟩:=List.mem_map.1 hel
 obtain rfl:=List.mem_singleton.1 hx
 rfl
theorem Nn (p:List (List Int)):(x6 p).map (·.map Dh) = p.map fun r=>[C2 r]:=by rw [List.map_map];rfl
theorem Np {p:List (List Int)} {n:Nat} (hp:p.length = n):O0 p n n = x6 p:=by
 unfold O0
 rw [Nat.sub_self,List.replicate_zero,List.append_nil,List.take_of_length_le (by omega)]
theorem u4 {x y:Int} (hx:-1000000 ≤ x ∧ x ≤ 1000000) (hy:-1000000 ≤ y ∧ y ≤ 1000000):-1000000000000 ≤ x * y ∧ x * y ≤ 1000000000000:=by
 have h:(x * y).natAbs ≤ 1000000 * 1000000:=by
  rw [Int.natAbs_mul]
  exact Nat.mul_le_mul (by omega) (by omega)
 omega
theorem JG {l:List (List Int)} {i a b n:Nat} (hl:l.length ≤ 200) (hr:∀ r ∈ l,r.length = n ∧ ∀ x ∈ r, -1000000 ≤ x ∧ x ≤ 1000000):-200000000000000 ≤ C0 (l.take i) (fun r=>r.getD a 0 * r.getD b 0) ∧ C0 (l.take i) (fun r=>r.getD a 0 * r.getD b 0) ≤ 200000000000000:=by
 have hg:∀ (r:List Int) (k:Nat),(∀ x ∈ r, -1000000 ≤ x ∧ x ≤ 1000000) → -1000000 ≤ r.getD k 0 ∧ r.getD k 0 ≤ 1000000:=fun r k h=>by
  rw [List.getD_eq_getElem?_getD]
  cases e:r[k]? with
  | none=>simp
  | some x=>exact h x (List.mem_of_getElem? e)
 have h1:=FD (l:=l.take i) (f:=fun r=>r.getD a 0 * r.getD b 0) (B:=1000000000000) fun r hr2=>by
  have:=(hr r (List.mem_of_mem_take hr2)).2
  have:=u4 (hg r a this) (hg r b this)
  omega
 have h2:(l.take i).length ≤ 200:=by rw [List.length_take];omega
 omega
def P3 (l:List (List Int)) (i:Nat) (r:List Int) (u a b:Nat):Int:=C0 (l.take i) (fun r=>r.getD a 0 * r.getD b 0) + if a < u then r.getD a 0 * r.getD b 0 else 0
def K7 (l:List (List Int)) (i:Nat) (r:List Int) (u v b:Nat):Int:=C0 (l.take i) (fun r=>r.getD u 0 * r.getD b 0) + if b < v then r.getD u 0 * r.getD b 0 else 0
theorem RT (l:List (List Int)) (i n:Nat) (r:List Int):b8 n (P3 l i r 0) = D2 (l.take i) n:=by
 rw [Di];exact GH fun a b _ _=>by unfold P3;rw [if_neg (by omega),Int.add_zero]
theorem RU {l:List (List Int)} {i n:Nat} {r:List Int} (h:l[i]? = some r):b8 n (P3 l i r n) = D2 (l.take (i + 1)) n:=by
 rw [Di];exact GH fun a b ha _=>by unfold P3;rw [if_pos ha,R1 h]
theorem Qn (l:List (List Int)) (i n u:Nat) (r:List Int):I3 n (K7 l i r u 0) = I3 n (P3 l i r u u):=X5 fun b _=>by unfold K7 P3;rw [if_neg (by omega),if_neg (by omega)]
theorem Nq {l:List (List Int)} {i n u:Nat} {r:List Int}:(x6 (b8 n (P3 l i r u))).set u (N4 (I3 n (K7 l i r u n))) = x6 (b8 n (P3 l i r (u + 1))):=by
 have e:I3 n (K7 l i r u n) = I3 n (P3 l i r (u + 1) u):=X5 fun b hb=>by unfold K7 P3;rw [if_pos hb,if_pos (by omega)]
 rw [e]
 show (((List.range n).map fun a=>I3 n (P3 l i r u a)).map N4).set u _ = ((List.range n).map fun a=>I3 n (P3 l i r (u + 1) a)).map N4
 rw [List.map_map,List.map_map]
 exact CV (f:=N4 ∘ fun a=>I3 n (P3 l i r u a)) (g:=N4 ∘ fun a=>I3 n (P3 l i r (u + 1) a)) fun a _ hne=>by
  show N4 _ = N4 _
  congr 1
  exact X5 fun b _=>by
   unfold P3
   congr 1
   by_cases h:a < u
   ·rw [if_pos h,if_pos (by omega)]
   ·rw [if_neg h,if_neg (by omega)]
theorem Lp {l:List (List Int)} {i n u v:Nat} {r:List Int}:((I3 n (K7 l i r u v)).map E5).set v (E5 (K7 l i r u (v + 1) v)) = (I3 n (K7 l i r u (v + 1))).map E5:=by
 rw [← List.map_set]
 congr 1
 exact CV (f:=K7 l i r u v) (g:=K7 l i r u (v + 1)) fun b _ hne=>by
  unfold K7
  congr 1
  by_cases h:b < v
  ·rw [if_pos h,if_pos (by omega)]
  ·rw [if_neg h,if_neg (by omega)]
end Go.Proofs.YtbhegmcbpolemaaDoor
