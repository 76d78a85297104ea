/- The choices: New, Next, Range, One, Mod. -/
import Derived.Test.YtbhegmcbpolemaaDoorTAvTy
import Derived.Test.YtbhegmcbpolemaaDoorTE3
set_option linter.unusedVariables false
set_option linter.unnecessarySimpa false
set_option linter.unusedSimpArgs false
namespace Go.Proofs.YtbhegmcbpolemaaDoor
open Go Go.Av
attribute [local irreducible] E4 B6 F1 DQ F6 F9 St.le B5 D4
def R5 (l:List UInt8) (at':Nat) (n:Int):Nat × Nat :=
 if n < 1 ∨ l.length ≤ at' then (0,at')
 else if 256 < n ∧ at' + 1 < l.length then (((l.getD at' 0).toNat * 256 + (l.getD (at' + 1) 0).toNat) % n.toNat,at' + 2)
 else ((l.getD at' 0).toNat % n.toNat,at' + 1)
theorem LR (l:List UInt8) (at':Nat) {n:Int} (h:1 ≤ n):((R5 l at' n).1:Int) < n:=by
 unfold R5
 split
 ·simp only;omega
 ·have:∀ k:Nat,((k % n.toNat:Nat):Int) < n:=fun k=>by
   have:=Nat.mod_lt k (show 0 < n.toNat by omega)
   omega
  split <;> exact this _
theorem Ev {l:List UInt8} {i:Nat} {c:UInt8} (h:l[i]? = some c):l.getD i 0 = c:=by rw [List.getD_eq_getElem?_getD,h];rfl
theorem NE {l:List UInt8} {a:Nat} {n:Int} (h:n < 1 ∨ l.length ≤ a):R5 l a n = (0,a):=by rw [R5,if_pos h]
theorem Oy {l:List UInt8} {a:Nat} {n:Int} {c:UInt8} (h:1 ≤ n) (hc:l[a]? = some c) (h2:¬ (256 < n ∧ a + 1 < l.length)):R5 l a n = (c.toNat % n.toNat,a + 1):=by
 have:=(List.getElem?_eq_some_iff.1 hc).1
 rw [R5,if_neg (by omega),if_neg h2,Ev hc]
theorem Oz {l:List UInt8} {a:Nat} {n:Int} {c d:UInt8} (h:256 < n) (hc:l[a]? = some c) (hd:l[a + 1]? = some d):R5 l a n = ((c.toNat * 256 + d.toNat) % n.toNat,a + 2):=by
 have:=(List.getElem?_eq_some_iff.1 hd).1
 rw [R5,if_neg (by omega),if_pos ⟨h,this⟩,Ev hc,Ev hd]
theorem PA {m n:Nat}:((m:Int).tmod n) = ((m % n:Nat):Int):=by
 rw [Int.tmod_eq_emod_of_nonneg (by omega)];omega
theorem Iq {m:Nat} {n:Int} (h:1 ≤ n):((m:Int).tmod n) = ((m % n.toNat:Nat):Int):=by
 have e:n = (n.toNat:Int):=by omega
 rw [e,PA,Int.toNat_natCast]
abbrev BW (l:List UInt8) (a:Nat):Hp:=[(0,some (.box [.sl 1 (l.map AU), .i a]))]
set_option maxHeartbeats 1000000 in
theorem NF (l:List UInt8) (hl:l.length ≤ 9223372036854775807):D4 Tryd.prog 7 0 [] [.sl 1 (l.map AU)] 1 (BW (l.take 400) 0) (.ref 0 0):=by
 refine FX Tryd.func7 10 fun E h0=>?_
 repeat' ((first|refine A5 ?_|refine S1 ?_|refine Z1 ?_|refine Z2 ?_|(refine And.intro ?_ ?_<;>intro h<;>try first|(exfalso;omega)|exact absurd rfl h)|refine Z3 ?_|refine Z4 ?_|intro el hel hbB|intro el hel|intro ex|refine Z5 ?_|(refine B0 ?_ ?_;exact ⟨by kernel_rfl,by decide⟩)|refine A9 ?_ ?_|exact A8|refine A7 ?_ ?_|exact A6|(refine A3 ?_ ?_ ?_;kernel_rfl;kernel_rfl)) <;> (try (conv=>whnf)))
 refine P3 (B4 h0 rfl ⟨rfl,trivial⟩ ⟨congrArg (fun z=>D9.box [AV.sl 1 z, .i 0]) ?_,trivial⟩ rfl rfl rfl)
 rw [show (min (l.length:Int) 400).toNat = min l.length 400 by omega, ← List.map_take]
 show _ = List.map AU (List.take (min l.length 400) l)
 congr 1
 by_cases h:l.length ≤ 400
 ·rw [Nat.min_eq_left h,List.take_of_length_le h,List.take_of_length_le (Nat.le_refl _)]
 ·rw [Nat.min_eq_right (by omega)]
set_option maxHeartbeats 2000000 in
theorem Fv (l:List UInt8) (a:Nat) (n:Int) (hl:l.length ≤ 400):D4 Tryd.prog 22 1 (BW l a) [.ref 0 0, .i n] 1 (BW l (R5 l a n).2) (.i (R5 l a n).1):=by
 refine FX Tryd.func22 77 fun E h0=>?_
 repeat' ((first | (refine M3 ?_ ?_;kernel_rfl) |refine A5 ?_|refine S1 ?_|refine Z1 ?_|refine Z2 ?_|(refine And.intro ?_ ?_<;>intro h<;>try first|(exfalso;omega)|exact absurd rfl h)|refine Z3 ?_|refine Z4 ?_|intro el hel hbB|intro el hel|intro ex|refine Z5 ?_|(refine B0 ?_ ?_;exact ⟨by kernel_rfl,by decide⟩)|refine A9 ?_ ?_|exact A8|refine A7 ?_ ?_|exact A6|(refine A3 ?_ ?_ ?_;kernel_rfl;kernel_rfl)) <;> (try (conv=>whnf)))
 all_goals first
  | (rw [NE (by omega)];exact P3 (B4 h0 rfl ⟨rfl,trivial⟩ ⟨rfl,trivial⟩ rfl rfl rfl))
  | skip
 ·rename_i el1 hel1 _ _
  have e1:l[a]? = some el1:=by rw [← hel1];congr 1;omega
  have e2:l[a + 1]? = some el:=by rw [← hel];congr 1
  rw [Oz (by assumption) e1 e2]
  refine P3 (B4 h0 rfl ⟨congrArg (fun z=>some (AV.i z)) ?_,trivial⟩ ⟨congrArg (fun z=>D9.box [AV.sl 1 (l.map AU), .i z]) ?_,trivial⟩ rfl rfl rfl)
  ·rw [← Iq (by omega)];rfl
  ·omega
 all_goals
  have e1:l[a]? = some el:=by rw [← hel];congr 1;omega
  rw [Oy (by omega) e1 (by omega)]
  exact P3 (B4 h0 rfl ⟨congrArg (fun z=>some (AV.i z)) ((Iq (m:=el.toNat) (n:=n) (by omega))),trivial⟩ ⟨rfl,trivial⟩ rfl rfl rfl)
def NG (k n:Int):Int:=if n < 1 then 0 else k % n
theorem K6 {k n:Int} (h:1 ≤ n):0 ≤ NG k n ∧ NG k n < n:=by
 rw [NG,if_neg (by omega)]
 exact ⟨Int.emod_nonneg _ (by omega),Int.emod_lt_of_pos _ (by omega)⟩
theorem Jw (l:List UInt8) (a:Nat) (lo hi:Int) (hl:l.length ≤ 400) (h1:lo ≤ hi) (h2:-4000000000000000000 ≤ lo) (h3:hi ≤ 4000000000000000000):D4 Tryd.prog 9 1 (BW l a) [.ref 0 0, .i lo, .i hi] 1 (BW l (R5 l a (hi - lo + 1)).2) (.i (lo + (R5 l a (hi - lo + 1)).1)):=by
 have hlt:=LR l a (n:=hi - lo + 1) (by omega)
 refine FX Tryd.func9 15 fun E h0=>?_
 repeat' ((first | refine ⟨AN [0] [0] (Fv _ _ _ hl) rfl rfl rfl rfl rfl ⟨rfl,trivial⟩ rfl rfl rfl rfl rfl ?_⟩ |refine A5 ?_|refine S1 ?_|refine Z1 ?_|refine Z2 ?_|(refine And.intro ?_ ?_<;>intro h<;>try first|(exfalso;omega)|exact absurd rfl h)|refine Z3 ?_|refine Z4 ?_|intro el hel hbB|intro el hel|intro ex|refine Z5 ?_|(refine B0 ?_ ?_;exact ⟨by kernel_rfl,by decide⟩)|refine A9 ?_ ?_|exact A8|refine A7 ?_ ?_|exact A6|(refine A3 ?_ ?_ ?_;kernel_rfl;kernel_rfl)) <;> (try (conv=>whnf)))
 exact P3 (B4 h0 rfl ⟨rfl,trivial⟩ ⟨rfl,trivial⟩ rfl rfl rfl)
theorem NH (l:List UInt8) (a:Nat) (n:Int) (hl:l.length ≤ 400) (hn:1 ≤ n ∧ n ≤ 1000000):D4 Tryd.prog 21 1 (BW l a) [.ref 0 0, .i n] 1 (BW l (R5 l a n).2) (.b (decide (((R5 l a n).1:Int) = n - 1))):=by
 refine FX Tryd.func21 11 fun E h0=>?_
 repeat' ((first | refine ⟨AN [0] [0] (Fv _ _ _ hl) rfl rfl rfl rfl rfl ⟨rfl,trivial⟩ rfl rfl rfl rfl rfl ?_⟩ |refine A5 ?_|refine S1 ?_|refine Z1 ?_|refine Z2 ?_|(refine And.intro ?_ ?_<;>intro h<;>try first|(exfalso;omega)|exact absurd rfl h)|refine Z3 ?_|refine Z4 ?_|intro el hel hbB|intro el hel|intro ex|refine Z5 ?_|(refine B0 ?_ ?_;exact ⟨by kernel_rfl,by decide⟩)|refine A9 ?_ ?_|exact A8|refine A7 ?_ ?_|exact A6|(refine A3 ?_ ?_ ?_;kernel_rfl;kernel_rfl)) <;> (try (conv=>whnf)))
 exact P3 (B4 h0 rfl ⟨rfl,trivial⟩ ⟨rfl,trivial⟩ rfl rfl rfl)
end Go.Proofs.YtbhegmcbpolemaaDoor
