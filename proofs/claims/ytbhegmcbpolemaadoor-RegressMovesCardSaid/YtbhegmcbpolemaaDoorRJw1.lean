/- Chapter 19: rows that are drawn, plain. -/
import Derived.Test.YtbhegmcbpolemaaDoorRDr1
import Derived.Test.YtbhegmcbpolemaaDoorRJm4
set_option linter.unusedVariables false
set_option linter.unnecessarySimpa false
set_option linter.unusedSimpArgs false
namespace Go.Proofs.YtbhegmcbpolemaaDoor
open Go Go.Av
attribute [local irreducible] E2 B3 F6 E9 DQ G2 H3 St.le B4 D7
set_option maxRecDepth 100000
def X3 (l:List UInt8) (a:Nat) (lo hi:Int):Int × Nat:=(lo + (AB l a (hi - lo + 1)).1,(AB l a (hi - lo + 1)).2)
theorem Hh (l:List UInt8) (a:Nat) {lo hi:Int} (h:lo ≤ hi):lo ≤ (X3 l a lo hi).1 ∧ (X3 l a lo hi).1 ≤ hi:=by
 have:=Lo l a (n:=hi - lo + 1) (by omega)
 unfold X3
 dsimp only
 omega
theorem DX (l:List UInt8) (a:Nat) (lo hi:Int) (hl:l.length ≤ 400) (h1:lo ≤ hi) (h2:-4000000000000000000 ≤ lo) (h3:hi ≤ 4000000000000000000):D7 Tryd.prog 9 1 (Ha l a) [.ref 0 0, .i lo, .i hi] 1 (Ha l (X3 l a lo hi).2) (.i (X3 l a lo hi).1):=KF l a lo hi hl h1 h2 h3
def M3 (l:List UInt8) (a:Nat):Nat → List Int × Nat
 | 0=>([],a)
 | k + 1=>((M3 l a k).1 ++ [(X3 l (M3 l a k).2 (-9) 20).1],(X3 l (M3 l a k).2 (-9) 20).2)
theorem CO (l:List UInt8) (a k:Nat):(M3 l a k).1.length = k:=by
 induction k with
 | zero=>rfl
 | succ k ih=>rw [M3,List.length_append,ih];rfl
theorem Hi (l:List UInt8) (a k:Nat):∀ x ∈ (M3 l a k).1, -9 ≤ x ∧ x ≤ 20:=by
 induction k with
 | zero=>intro x hx;cases hx
 | succ k ih =>
   intro x hx
   rw [M3] at hx
   rcases List.mem_append.1 hx with h | h
   ·exact ih x h
   ·rw [List.mem_singleton.1 h];exact Hh l _ (by decide)
end Go.Proofs.YtbhegmcbpolemaaDoor
