/- Chapter 1: the reference's levels, ancestors, codes of a level. Chapter 1: the reference's ancestors, codes of a level, codes with a name. -/
import Derived.Test.YthkklceofokkmaaGreatDoorBB4
import Derived.Test.YthkklceofokkmaaGreatDoorBE3
import Derived.Test.YthkklceofokkmaaGreatDoorBCd1
set_option linter.unusedVariables false
set_option linter.unnecessarySimpa false
set_option linter.unusedSimpArgs false
namespace Go.Proofs.YthkklceofokkmaaGreatDoor
open Go Go.Av
attribute [local irreducible] E5 B7 E6 DQ E8 F0 St.le B3 B5
theorem Pa:∀ (ps:List (Bool × Nat)) (l:Int),lv l ps = true → ∀ (i j:Nat) d e,ps[i]? = some (true,d) → ps[j]? = some (true,e) → d = e ∧ (0 ≤ l → (d:Int) = l)
 | [],l,_,i,j,d,e,h,_=>by simp at h
 | (lf,x) :: r,l,hl,i,j,d,e,hi,hj=>by
   unfold lv at hl
   cases lf with
   | false =>
     simp only [Bool.false_eq_true,if_false] at hl
     cases i with
     | zero=>simp at hi
     | succ i=>cases j with
       | zero=>simp at hj
       | succ j=>exact Pa r l hl i j d e (by simpa using hi) (by simpa using hj)
   | true =>
     simp only [if_true] at hl
     split at hl
     ·cases hl
     ·rename_i hx
      have first:∀ (k:Nat) y,((true,x) :: r)[k]? = some (true,y) → (y:Int) = x:=by
       intro k y hk
       cases k with
       | zero=>simp at hk;omega
       | succ k =>
         have hk':r[k]? = some (true,y):=by simpa using hk
         exact (Pa r x hl k k y y hk' hk').2 (by omega)
      have h1:=first i d hi
      have h2:=first j e hj
      exact ⟨by omega,fun h0=>by omega⟩
theorem an {nm:List UInt8} {cs:List Code} (h:chk nm cs = 0):lv (-1) (AL cs) = true:=by
 unfold chk at h
 split at h
 ·cases h
 ·split at h
  ·cases h
  ·split at h
   ·cases h
   ·cases hs:scan [] cs with
    | some e =>
      rw [hs] at h
      have:∀ (cs pre:List Code) e,scan pre cs = some e → e = 3 ∨ e = 10 ∨ e = 6:=by
       intro cs
       induction cs with
       | nil=>intro pre e h;cases h
       | cons a r ih =>
         intro pre e h
         simp only [scan] at h
         split at h
         ·cases h;exact .inl rfl
         ·split at h
          ·cases h;exact .inr (.inl rfl)
          ·split at h
           ·cases h;exact .inr (.inr rfl)
           ·exact ih _ _ h
      have:=this _ _ _ hs
      simp only at h
      omega
    | none =>
      rw [hs] at h
      simp only at h
      split at h
      ·assumption
      ·cases h
theorem NE {cs:List Code} {c:Int}:g8 cs c = true ↔ ∀ x ∈ cs,x.parent ≠ c:=by
 simp [g8,List.all_eq_true]
theorem VY {cs:List Code} (hg:Good cs) (hn:0 < cs.length):g8 cs (cs.length - 1:Nat) = true:=by
 rw [NE]
 intro x hx
 obtain ⟨i,hi,rfl⟩:=List.getElem_of_mem hx
 rcases Nat.eq_zero_or_pos i with e | e
 ·subst e
  have:=hg.root _ (List.getElem?_eq_getElem hi)
  omega
 ·have:=hg.before i _ (List.getElem?_eq_getElem hi) e
  omega
theorem Hi:∀ (ds:List Nat) (a:Nat),(∃ d ∈ a :: ds,ds.foldl max a = d) ∧ ∀ d ∈ a :: ds,d ≤ ds.foldl max a
 | [],a=>⟨⟨a,by simp,rfl⟩,fun d hd=>by simp at hd;subst hd;exact Nat.le_refl _⟩
 | x :: r,a=>by
   obtain ⟨⟨d,hd,he⟩,hall⟩:=Hi r (max a x)
   refine ⟨⟨d,?_,he⟩,fun y hy=>?_⟩
   ·rcases List.mem_cons.1 hd with h | h
    ·rcases Nat.le_total a x with h2 | h2
     ·rw [Nat.max_eq_right h2] at h;simp [h]
     ·rw [Nat.max_eq_left h2] at h;simp [h]
    ·simp [h]
   ·have h1:=hall (max a x) (by simp)
    rcases List.mem_cons.1 hy with h | h
    ·subst h;show _ ≤ List.foldl max (max y x) r;omega
    ·rcases List.mem_cons.1 h with h | h
     ·subst h;show _ ≤ List.foldl max (max a y) r;omega
     ·exact hall y (by simp [h])
theorem ao {ds:List Nat} {i d:Nat} (h:ds[i]? = some d):d ≤ CD ds:=(Hi ds 0).2 d (by simp [List.mem_of_getElem? h])
theorem ap {ds:List Nat} (h:0 < ds.length):∃ i:Nat,ds[i]? = some (CD ds):=by
 obtain ⟨⟨d,hd,he⟩,hall⟩:=Hi ds 0
 have he:CD ds = d:=he
 rw [he]
 rcases List.mem_cons.1 hd with h2 | h2
 ·subst h2
  refine ⟨0,?_⟩
  have:=hall ds[0] (by simp)
  have h3:ds.foldl max 0 = 0:=he
  rw [List.getElem?_eq_getElem h]
  congr 1;omega
 ·obtain ⟨i,hi,hh⟩:=List.getElem_of_mem h2
  exact ⟨i,by rw [List.getElem?_eq_getElem hi,hh]⟩
theorem VZ {cs:List Code} (hg:Good cs) {i:Nat} (hi:i < cs.length) (hd:dep cs i = CD (R9 cs)):g8 cs i = true:=by
 rw [NE]
 intro x hx e
 obtain ⟨k,hk,rfl⟩:=List.getElem_of_mem hx
 have hk0:0 < k:=by
  rcases Nat.eq_zero_or_pos k with e2 | e2
  ·subst e2
   have:=hg.root _ (List.getElem?_eq_getElem hk)
   omega
  ·exact e2
 obtain ⟨h1,h2,h3⟩:=aP hg.before (List.getElem?_eq_getElem hk) hk0
 have:par cs k = i:=by omega
 rw [this] at h1
 have:=ao (Kw hk)
 omega
theorem Va {nm:List UInt8} {cs:List Code} (h:chk nm cs = 0) {i:Nat} (hi:i < cs.length) (hl:g8 cs i = true):dep cs i = CD (R9 cs):=by
 obtain ⟨hg,hn,_⟩:=j7 h
 obtain ⟨m,hm⟩:=ap (ds:=R9 cs) (by rw [L7];exact hn)
 have hml:m < cs.length:=by rw [← L7 cs];exact (List.getElem?_eq_some_iff.1 hm).1
 have hmd:=Ro hm
 have hlm:=VZ hg hml hmd
 have p1:=EN (Kw hi)
 have p2:=EN (Kw hml)
 rw [hl] at p1
 rw [hlm] at p2
 rw [← hmd]
 exact (Pa _ _ (an h) _ _ _ _ p1 p2).1
theorem Xl {nm:List UInt8} {cs:List Code} (h:chk nm cs = 0):dep cs (cs.length - 1) = CD (R9 cs):=by
 obtain ⟨hg,hn,_⟩:=j7 h
 exact Va h (by omega) (VY hg hn)
set_option maxHeartbeats 2000000 in
theorem Pb (nm:List UInt8) (cs:List Code) (hlen:cs.length ≤ 9223372036854775807):B3 Tryz.prog 140 [lA nm cs] (.i (G7 nm cs)):=by
 refine F7 Tryz.func140 13 fun hrd E h0=>?_
 repeat' ((first | refine B0 (JH _ _ hlen) ?_ |refine A1 ?_|refine S1 ?_|refine Z1 ?_|refine Z2 ?_|(refine And.intro ?_ ?_<;>intro h<;>try first|(exfalso;omega)|exact absurd rfl h)|refine Z3 ?_|refine Z4 ?_|intro el hel hbB|intro el hel|intro ex|refine Z5 ?_|(refine A8 ?_ ?_;exact ⟨by kernel_rfl,by decide⟩)|refine A7 ?_ ?_|exact A6|refine A3 ?_ ?_|exact A2|(refine A0 ?_ ?_ ?_;kernel_rfl;kernel_rfl)) <;> (try (conv=>whnf)))
 ·exact A9 rfl (congrArg AV.i (by rw [G7,if_neg h]))
 have hc:chk nm cs = 0:=by omega
 have h60:=Kv hc
 obtain ⟨hg,hn,_⟩:=j7 hc
 have hd:=Jg hg.before
 have hl:=Xl hc
 have e:((cs.length:Int) - 1) = ((cs.length - 1:Nat):Int):=by omega
 repeat' ((first | refine B0 (args:=[lA nm cs, .i ((cs.length:Int) - 1)]) (by rw [e];exact Ku _ _ _ _ hg hlen (Kw (j:=cs.length - 1) (by omega))) ?_ |refine A1 ?_|refine S1 ?_|refine Z1 ?_|refine Z2 ?_|(refine And.intro ?_ ?_<;>intro h<;>try first|(exfalso;omega)|exact absurd rfl h)|refine Z3 ?_|refine Z4 ?_|intro el hel hbB|intro el hel|intro ex|refine Z5 ?_|(refine A8 ?_ ?_;exact ⟨by kernel_rfl,by decide⟩)|refine A7 ?_ ?_|exact A6|refine A3 ?_ ?_|exact A2|(refine A0 ?_ ?_ ?_;kernel_rfl;kernel_rfl)) <;> (try (conv=>whnf)))
 exact A9 rfl (congrArg AV.i (by rw [G7,if_pos hc,hl]))
end Go.Proofs.YthkklceofokkmaaGreatDoor
namespace Go.Proofs.YthkklceofokkmaaGreatDoor
open Go Go.Av
attribute [local irreducible] E5 B7 E6 E7 DQ E8 F0 St.le B3 B5
set_option maxRecDepth 100000
def Lx (s:B2) (column:Int):List Nat:=V2 (D7 s (C6 s column)).1 (D7 s (C6 s column)).2 (G7 (D7 s (C6 s column)).1 (D7 s (C6 s column)).2 - 1)
theorem aq {s:B2} (hr:C8 s = 0) {column:Int} (h1:1 ≤ column) (h2:column < s.cols.length):0 ≤ R7 s column:=by
 have hc:s.cols[column.toNat]? = some s.cols[column.toNat]:=List.getElem?_eq_getElem (by omega)
 have hcr:=NC hr h1 hc
 rw [R7,if_neg (by omega),E0 hc]
 generalize s.cols[column.toNat] = c at hcr
 unfold Au
 rcases hcr with hcr | hcr
 ·rw [if_pos hcr.1]
  have hl:s.lists[c.lst.toNat]? = some (s.lists[c.lst.toNat]'(by omega)):=List.getElem?_eq_getElem (by omega)
  have hk:=(R3 hr).2.2.1 _ (List.mem_of_getElem? hl)
  rw [Q1 hl,G7,if_pos hk]
  omega
 ·rw [if_neg (by omega)];omega
end Go.Proofs.YthkklceofokkmaaGreatDoor
