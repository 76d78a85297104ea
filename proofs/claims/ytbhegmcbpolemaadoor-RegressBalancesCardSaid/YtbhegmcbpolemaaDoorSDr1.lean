/- The choices: New, Next, Range, One, Mod. -/
import Derived.Test.YtbhegmcbpolemaaDoorSAvTy
import Derived.Test.YtbhegmcbpolemaaDoorSE3
set_option linter.unusedVariables false
set_option linter.unnecessarySimpa false
set_option linter.unusedSimpArgs false
namespace Go.Proofs.YtbhegmcbpolemaaDoor
open Go Go.Av
attribute [local irreducible] E3 B5 F2 DQ F5 G8 St.le B6 D3
def R2 (l:List UInt8) (at':Nat) (n:Int):Nat × Nat :=
 if n < 1 ∨ l.length ≤ at' then (0,at')
 else if 256 < n ∧ at' + 1 < l.length then (((l.getD at' 0).toNat * 256 + (l.getD (at' + 1) 0).toNat) % n.toNat,at' + 2)
 else ((l.getD at' 0).toNat % n.toNat,at' + 1)
theorem Lw (l:List UInt8) (at':Nat) {n:Int} (h:1 ≤ n):((R2 l at' n).1:Int) < n:=by
 unfold R2
 split
 ·simp only;omega
 ·have:∀ k:Nat,((k % n.toNat:Nat):Int) < n:=fun k=>by
   have:=Nat.mod_lt k (show 0 < n.toNat by omega)
   omega
  split <;> exact this _
theorem FM {l:List UInt8} {i:Nat} {c:UInt8} (h:l[i]? = some c):l.getD i 0 = c:=by rw [List.getD_eq_getElem?_getD,h];rfl
theorem Nv {l:List UInt8} {a:Nat} {n:Int} (h:n < 1 ∨ l.length ≤ a):R2 l a n = (0,a):=by rw [R2,if_pos h]
theorem Pn {l:List UInt8} {a:Nat} {n:Int} {c:UInt8} (h:1 ≤ n) (hc:l[a]? = some c) (h2:¬ (256 < n ∧ a + 1 < l.length)):R2 l a n = (c.toNat % n.toNat,a + 1):=by
 have:=(List.getElem?_eq_some_iff.1 hc).1
 rw [R2,if_neg (by omega),if_neg h2,FM hc]
theorem Po {l:List UInt8} {a:Nat} {n:Int} {c d:UInt8} (h:256 < n) (hc:l[a]? = some c) (hd:l[a + 1]? = some d):R2 l a n = ((c.toNat * 256 + d.toNat) % n.toNat,a + 2):=by
 have:=(List.getElem?_eq_some_iff.1 hd).1
 rw [R2,if_neg (by omega),if_pos ⟨h,this⟩,FM hc,FM hd]
theorem Pp {m n:Nat}:((m:Int).tmod n) = ((m % n:Nat):Int):=by
 rw [Int.tmod_eq_emod_of_nonneg (by omega)];omega
theorem JH {m:Nat} {n:Int} (h:1 ≤ n):((m:Int).tmod n) = ((m % n.toNat:Nat):Int):=by
 have e:n = (n.toNat:Int):=by omega
 rw [e,Pp,Int.toNat_natCast]
abbrev Bl (l:List UInt8) (a:Nat):Hp:=[(0,some (.box [.sl 1 (l.map Bj), .i a]))]
set_option maxHeartbeats 1000000 in
theorem Nw (l:List UInt8) (hl:l.length ≤ 9223372036854775807):D3 Tryd.prog 7 0 [] [.sl 1 (l.map Bj)] 1 (Bl (l.take 400) 0) (.ref 0 0):=by
 refine Fp Tryd.func7 10 fun E h0=>?_
 repeat' ((first|refine A6 ?_|refine S1 ?_|refine Z1 ?_|refine Z2 ?_|(refine And.intro ?_ ?_<;>intro h<;>try first|(exfalso;omega)|exact absurd rfl h)|refine Z3 ?_|refine Z4 ?_|intro el hel hbB|intro el hel|intro ex|refine Z5 ?_|(refine B2 ?_ ?_;exact ⟨by kernel_rfl,by decide⟩)|refine B0 ?_ ?_|exact A9|refine A8 ?_ ?_|exact A7|(refine A3 ?_ ?_ ?_;kernel_rfl;kernel_rfl)) <;> (try (conv=>whnf)))
 refine O9 (B3 h0 rfl ⟨rfl,trivial⟩ ⟨congrArg (fun z=>E0.box [AV.sl 1 z, .i 0]) ?_,trivial⟩ rfl rfl rfl)
 rw [show (min (l.length:Int) 400).toNat = min l.length 400 by omega, ← List.map_take]
 show _ = List.map Bj (List.take (min l.length 400) l)
 congr 1
 by_cases h:l.length ≤ 400
 ·rw [Nat.min_eq_left h,List.take_of_length_le h,List.take_of_length_le (Nat.le_refl _)]
 ·rw [Nat.min_eq_right (by omega)]
set_option maxHeartbeats 2000000 in
theorem GI (l:List UInt8) (a:Nat) (n:Int) (hl:l.length ≤ 400):D3 Tryd.prog 22 1 (Bl l a) [.ref 0 0, .i n] 1 (Bl l (R2 l a n).2) (.i (R2 l a n).1):=by
 refine Fp Tryd.func22 77 fun E h0=>?_
 repeat' ((first | (refine U2 ?_ ?_;kernel_rfl) |refine A6 ?_|refine S1 ?_|refine Z1 ?_|refine Z2 ?_|(refine And.intro ?_ ?_<;>intro h<;>try first|(exfalso;omega)|exact absurd rfl h)|refine Z3 ?_|refine Z4 ?_|intro el hel hbB|intro el hel|intro ex|refine Z5 ?_|(refine B2 ?_ ?_;exact ⟨by kernel_rfl,by decide⟩)|refine B0 ?_ ?_|exact A9|refine A8 ?_ ?_|exact A7|(refine A3 ?_ ?_ ?_;kernel_rfl;kernel_rfl)) <;> (try (conv=>whnf)))
 all_goals first
  | (rw [Nv (by omega)];exact O9 (B3 h0 rfl ⟨rfl,trivial⟩ ⟨rfl,trivial⟩ rfl rfl rfl))
  | skip
 ·rename_i el1 hel1 _ _
  have e1:l[a]? = some el1:=by rw [← hel1];congr 1;omega
  have e2:l[a + 1]? = some el:=by rw [← hel];congr 1
  rw [Po (by assumption) e1 e2]
  refine O9 (B3 h0 rfl ⟨congrArg (fun z=>some (AV.i z)) ?_,trivial⟩ ⟨congrArg (fun z=>E0.box [AV.sl 1 (l.map Bj), .i z]) ?_,trivial⟩ rfl rfl rfl)
  ·rw [← JH (by omega)];rfl
  ·omega
 all_goals
  have e1:l[a]? = some el:=by rw [← hel];congr 1;omega
  rw [Pn (by omega) e1 (by omega)]
  exact O9 (B3 h0 rfl ⟨congrArg (fun z=>some (AV.i z)) ((JH (m:=el.toNat) (n:=n) (by omega))),trivial⟩ ⟨rfl,trivial⟩ rfl rfl rfl)
def Nx (k n:Int):Int:=if n < 1 then 0 else k % n
theorem Q7 {k n:Int} (h:1 ≤ n):0 ≤ Nx k n ∧ Nx k n < n:=by
 rw [Nx,if_neg (by omega)]
 exact ⟨Int.emod_nonneg _ (by omega),Int.emod_lt_of_pos _ (by omega)⟩
theorem KO (l:List UInt8) (a:Nat) (lo hi:Int) (hl:l.length ≤ 400) (h1:lo ≤ hi) (h2:-4000000000000000000 ≤ lo) (h3:hi ≤ 4000000000000000000):D3 Tryd.prog 9 1 (Bl l a) [.ref 0 0, .i lo, .i hi] 1 (Bl l (R2 l a (hi - lo + 1)).2) (.i (lo + (R2 l a (hi - lo + 1)).1)):=by
 have hlt:=Lw l a (n:=hi - lo + 1) (by omega)
 refine Fp Tryd.func9 15 fun E h0=>?_
 repeat' ((first | refine ⟨s8 [0] [0] (GI _ _ _ hl) rfl rfl rfl rfl rfl ⟨rfl,trivial⟩ rfl rfl rfl rfl rfl ?_⟩ |refine A6 ?_|refine S1 ?_|refine Z1 ?_|refine Z2 ?_|(refine And.intro ?_ ?_<;>intro h<;>try first|(exfalso;omega)|exact absurd rfl h)|refine Z3 ?_|refine Z4 ?_|intro el hel hbB|intro el hel|intro ex|refine Z5 ?_|(refine B2 ?_ ?_;exact ⟨by kernel_rfl,by decide⟩)|refine B0 ?_ ?_|exact A9|refine A8 ?_ ?_|exact A7|(refine A3 ?_ ?_ ?_;kernel_rfl;kernel_rfl)) <;> (try (conv=>whnf)))
 exact O9 (B3 h0 rfl ⟨rfl,trivial⟩ ⟨rfl,trivial⟩ rfl rfl rfl)
theorem Ny (l:List UInt8) (a:Nat) (n:Int) (hl:l.length ≤ 400) (hn:1 ≤ n ∧ n ≤ 1000000):D3 Tryd.prog 21 1 (Bl l a) [.ref 0 0, .i n] 1 (Bl l (R2 l a n).2) (.b (decide (((R2 l a n).1:Int) = n - 1))):=by
 refine Fp Tryd.func21 11 fun E h0=>?_
 repeat' ((first | refine ⟨s8 [0] [0] (GI _ _ _ hl) rfl rfl rfl rfl rfl ⟨rfl,trivial⟩ rfl rfl rfl rfl rfl ?_⟩ |refine A6 ?_|refine S1 ?_|refine Z1 ?_|refine Z2 ?_|(refine And.intro ?_ ?_<;>intro h<;>try first|(exfalso;omega)|exact absurd rfl h)|refine Z3 ?_|refine Z4 ?_|intro el hel hbB|intro el hel|intro ex|refine Z5 ?_|(refine B2 ?_ ?_;exact ⟨by kernel_rfl,by decide⟩)|refine B0 ?_ ?_|exact A9|refine A8 ?_ ?_|exact A7|(refine A3 ?_ ?_ ?_;kernel_rfl;kernel_rfl)) <;> (try (conv=>whnf)))
 exact O9 (B3 h0 rfl ⟨rfl,trivial⟩ ⟨rfl,trivial⟩ rfl rfl rfl)
end Go.Proofs.YtbhegmcbpolemaaDoor
