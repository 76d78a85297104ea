/- The choices: New, Next, Range, One, Mod. The text of a small number; a drawn list of codes. Chapter 1: a made list in which something is another thing. Chapter 1: the lists that can be drawn are few. -/
import Derived.Test.YtiphlhoclaogjabGreatDoorQAvTy
import Derived.Test.YtiphlhoclaogjabGreatDoorQE3
import Derived.Test.YtiphlhoclaogjabGreatDoorQB4
set_option linter.unusedVariables false
set_option linter.unnecessarySimpa false
set_option linter.unusedSimpArgs false
namespace Go.Proofs.YtiphlhoclaogjabGreatDoor
open Go Go.Av
attribute [local irreducible] D6 B8 D8 DQ E0 E1 St.le B4 B9
def C9 (l:List UInt8) (at':Nat) (n:Int):Nat × Nat :=
 if n < 1 ∨ l.length ≤ at' then (0,at')
 else if 256 < n ∧ at' + 1 < l.length then (((l.getD at' 0).toNat * 256 + (l.getD (at' + 1) 0).toNat) % n.toNat,at' + 2)
 else ((l.getD at' 0).toNat % n.toNat,at' + 1)
theorem N7 (l:List UInt8) (at':Nat) {n:Int} (h:1 ≤ n):((C9 l at' n).1:Int) < n:=by
 unfold C9
 split
 ·simp only;omega
 ·have:∀ k:Nat,((k % n.toNat:Nat):Int) < n:=fun k=>by
   have:=Nat.mod_lt k (show 0 < n.toNat by omega)
   omega
  split <;> exact this _
theorem Ik {l:List UInt8} {i:Nat} {c:UInt8} (h:l[i]? = some c):l.getD i 0 = c:=by rw [List.getD_eq_getElem?_getD,h];rfl
theorem TR {l:List UInt8} {a:Nat} {n:Int} (h:n < 1 ∨ l.length ≤ a):C9 l a n = (0,a):=by rw [C9,if_pos h]
theorem WA {l:List UInt8} {a:Nat} {n:Int} {c:UInt8} (h:1 ≤ n) (hc:l[a]? = some c) (h2:¬ (256 < n ∧ a + 1 < l.length)):C9 l a n = (c.toNat % n.toNat,a + 1):=by
 have:=(List.getElem?_eq_some_iff.1 hc).1
 rw [C9,if_neg (by omega),if_neg h2,Ik hc]
theorem WB {l:List UInt8} {a:Nat} {n:Int} {c d:UInt8} (h:256 < n) (hc:l[a]? = some c) (hd:l[a + 1]? = some d):C9 l a n = ((c.toNat * 256 + d.toNat) % n.toNat,a + 2):=by
 have:=(List.getElem?_eq_some_iff.1 hd).1
 rw [C9,if_neg (by omega),if_pos ⟨h,this⟩,Ik hc,Ik hd]
theorem WC {m n:Nat}:((m:Int).tmod n) = ((m % n:Nat):Int):=by
 rw [Int.tmod_eq_emod_of_nonneg (by omega)];omega
theorem Nl {m:Nat} {n:Int} (h:1 ≤ n):((m:Int).tmod n) = ((m % n.toNat:Nat):Int):=by
 have e:n = (n.toNat:Int):=by omega
 rw [e,WC,Int.toNat_natCast]
theorem WD (k:Int) {n:Int} (h:1 ≤ n):-n < k.tmod n ∧ k.tmod n < n:=⟨by
 have:=Int.lt_tmod_of_pos k (b:=n) (by omega);omega,Int.tmod_lt_of_pos k (by omega)⟩
abbrev s9 (l:List UInt8) (a:Nat):Hp:=[(0,some (.box [.sl 1 (l.map T7), .i a]))]
set_option maxHeartbeats 1000000 in
theorem TS (l:List UInt8) (hl:l.length ≤ 9223372036854775807):B9 Tryz.prog 8 0 [] [.sl 1 (l.map T7)] 1 (s9 (l.take 400) 0) (.ref 0 0):=by
 refine J1 Tryz.func8 10 fun E h0=>?_
 repeat' ((first|refine A4 ?_|refine S1 ?_|refine Z1 ?_|refine Z2 ?_|(refine And.intro ?_ ?_<;>intro h<;>try first|(exfalso;omega)|exact absurd rfl h)|refine Z3 ?_|refine Z4 ?_|intro el hel hbB|intro el hel|intro ex|refine Z5 ?_|(refine A9 ?_ ?_;exact ⟨by kernel_rfl,by decide⟩)|refine A8 ?_ ?_|exact A7|refine A6 ?_ ?_|exact A5|(refine A0 ?_ ?_ ?_;kernel_rfl;kernel_rfl)) <;> (try (conv=>whnf)))
 refine D5 (B0 h0 rfl ⟨rfl,trivial⟩ ⟨congrArg (fun z=>C6.box [AV.sl 1 z, .i 0]) ?_,trivial⟩ rfl rfl rfl)
 rw [show (min (l.length:Int) 400).toNat = min l.length 400 by omega, ← List.map_take]
 show _ = List.map T7 (List.take (min l.length 400) l)
 congr 1
 by_cases h:l.length ≤ 400
 ·rw [Nat.min_eq_left h,List.take_of_length_le h,List.take_of_length_le (Nat.le_refl _)]
 ·rw [Nat.min_eq_right (by omega)]
set_option maxHeartbeats 2000000 in
theorem t8 (l:List UInt8) (a:Nat) (n:Int) (hl:l.length ≤ 400):B9 Tryz.prog 20 1 (s9 l a) [.ref 0 0, .i n] 1 (s9 l (C9 l a n).2) (.i (C9 l a n).1):=by
 refine J1 Tryz.func20 77 fun E h0=>?_
 repeat' ((first | (refine E3 ?_ ?_;kernel_rfl) |refine A4 ?_|refine S1 ?_|refine Z1 ?_|refine Z2 ?_|(refine And.intro ?_ ?_<;>intro h<;>try first|(exfalso;omega)|exact absurd rfl h)|refine Z3 ?_|refine Z4 ?_|intro el hel hbB|intro el hel|intro ex|refine Z5 ?_|(refine A9 ?_ ?_;exact ⟨by kernel_rfl,by decide⟩)|refine A8 ?_ ?_|exact A7|refine A6 ?_ ?_|exact A5|(refine A0 ?_ ?_ ?_;kernel_rfl;kernel_rfl)) <;> (try (conv=>whnf)))
 all_goals first
  | (rw [TR (by omega)];exact D5 (B0 h0 rfl ⟨rfl,trivial⟩ ⟨rfl,trivial⟩ rfl rfl rfl))
  | skip
 ·rename_i el1 hel1 _ _
  have e1:l[a]? = some el1:=by rw [← hel1];congr 1;omega
  have e2:l[a + 1]? = some el:=by rw [← hel];congr 1
  rw [WB (by assumption) e1 e2]
  refine D5 (B0 h0 rfl ⟨congrArg (fun z=>some (AV.i z)) ?_,trivial⟩ ⟨congrArg (fun z=>C6.box [AV.sl 1 (l.map T7), .i z]) ?_,trivial⟩ rfl rfl rfl)
  ·rw [← Nl (by omega)];rfl
  ·omega
 all_goals
  have e1:l[a]? = some el:=by rw [← hel];congr 1;omega
  rw [WA (by omega) e1 (by omega)]
  exact D5 (B0 h0 rfl ⟨congrArg (fun z=>some (AV.i z)) ((Nl (m:=el.toNat) (n:=n) (by omega))),trivial⟩ ⟨rfl,trivial⟩ rfl rfl rfl)
def Ej (k n:Int):Int:=if n < 1 then 0 else k % n
theorem w6 {k n:Int} (h:1 ≤ n):0 ≤ Ej k n ∧ Ej k n < n:=by
 rw [Ej,if_neg (by omega)]
 exact ⟨Int.emod_nonneg _ (by omega),Int.emod_lt_of_pos _ (by omega)⟩
theorem Je (k:Int) {n:Int} (h:1 ≤ n):(k.tmod n < 0 ∧ k % n = k.tmod n + n) ∨ (0 ≤ k.tmod n ∧ k % n = k.tmod n):=by
 have h2:k % n = (k.tmod n) % n:=by
  have:=Int.mul_tdiv_add_tmod k n
  conv=>lhs;rw [← this]
  rw [Int.add_comm,Int.add_mul_emod_self_left]
 have hb:-n < k.tmod n ∧ k.tmod n < n:=⟨by have:=Int.lt_tmod_of_pos k (b:=n) (by omega);omega,Int.tmod_lt_of_pos k (by omega)⟩
 by_cases hneg:k.tmod n < 0
 ·left
  refine ⟨hneg,?_⟩
  rw [h2, ← Int.add_emod_right,Int.emod_eq_of_lt (by omega) (by omega)]
 ·right
  refine ⟨by omega,?_⟩
  rw [h2,Int.emod_eq_of_lt (by omega) (by omega)]
theorem TT (k n:Int) (hn:n ≤ 9223372036854775807):B4 Tryz.prog 16 [.i k, .i n] (.i (Ej k n)):=by
 have hb:=fun h:1 ≤ n=>WD k h
 refine F3 Tryz.func16 16 fun hrd E h0=>?_
 repeat' ((first | (refine G9 ?_ ?_;(have:=hb (by omega);omega)) |refine A4 ?_|refine S1 ?_|refine Z1 ?_|refine Z2 ?_|(refine And.intro ?_ ?_<;>intro h<;>try first|(exfalso;omega)|exact absurd rfl h)|refine Z3 ?_|refine Z4 ?_|intro el hel hbB|intro el hel|intro ex|refine Z5 ?_|(refine A9 ?_ ?_;exact ⟨by kernel_rfl,by decide⟩)|refine A8 ?_ ?_|exact A7|refine A6 ?_ ?_|exact A5|(refine A0 ?_ ?_ ?_;kernel_rfl;kernel_rfl)) <;> (try (conv=>whnf)))
 ·exact B5 rfl (congrArg AV.i (by rw [Ej,if_pos h]))
 ·refine B5 rfl (congrArg AV.i ?_)
  have hn1:1 ≤ n:=by omega
  have:=Je k hn1
  rw [Ej,if_neg (by omega)];omega
 ·refine B5 rfl (congrArg AV.i ?_)
  have hn1:1 ≤ n:=by omega
  have:=Je k hn1
  rw [Ej,if_neg (by omega)];omega
theorem k9 (l:List UInt8) (a:Nat) (lo hi:Int) (hl:l.length ≤ 400) (h1:lo ≤ hi) (h2:-4000000000000000000 ≤ lo) (h3:hi ≤ 4000000000000000000):B9 Tryz.prog 51 1 (s9 l a) [.ref 0 0, .i lo, .i hi] 1 (s9 l (C9 l a (hi - lo + 1)).2) (.i (lo + (C9 l a (hi - lo + 1)).1)):=by
 have hlt:=N7 l a (n:=hi - lo + 1) (by omega)
 refine J1 Tryz.func51 15 fun E h0=>?_
 repeat' ((first | refine ⟨b9 [0] [0] (t8 _ _ _ hl) rfl rfl rfl rfl rfl ⟨rfl,trivial⟩ rfl rfl rfl rfl rfl ?_⟩ |refine A4 ?_|refine S1 ?_|refine Z1 ?_|refine Z2 ?_|(refine And.intro ?_ ?_<;>intro h<;>try first|(exfalso;omega)|exact absurd rfl h)|refine Z3 ?_|refine Z4 ?_|intro el hel hbB|intro el hel|intro ex|refine Z5 ?_|(refine A9 ?_ ?_;exact ⟨by kernel_rfl,by decide⟩)|refine A8 ?_ ?_|exact A7|refine A6 ?_ ?_|exact A5|(refine A0 ?_ ?_ ?_;kernel_rfl;kernel_rfl)) <;> (try (conv=>whnf)))
 exact D5 (B0 h0 rfl ⟨rfl,trivial⟩ ⟨rfl,trivial⟩ rfl rfl rfl)
theorem Bj (l:List UInt8) (a:Nat) (n:Int) (hl:l.length ≤ 400) (hn:1 ≤ n ∧ n ≤ 1000000):B9 Tryz.prog 50 1 (s9 l a) [.ref 0 0, .i n] 1 (s9 l (C9 l a n).2) (.b (decide (((C9 l a n).1:Int) = n - 1))):=by
 refine J1 Tryz.func50 11 fun E h0=>?_
 repeat' ((first | refine ⟨b9 [0] [0] (t8 _ _ _ hl) rfl rfl rfl rfl rfl ⟨rfl,trivial⟩ rfl rfl rfl rfl rfl ?_⟩ |refine A4 ?_|refine S1 ?_|refine Z1 ?_|refine Z2 ?_|(refine And.intro ?_ ?_<;>intro h<;>try first|(exfalso;omega)|exact absurd rfl h)|refine Z3 ?_|refine Z4 ?_|intro el hel hbB|intro el hel|intro ex|refine Z5 ?_|(refine A9 ?_ ?_;exact ⟨by kernel_rfl,by decide⟩)|refine A8 ?_ ?_|exact A7|refine A6 ?_ ?_|exact A5|(refine A0 ?_ ?_ ?_;kernel_rfl;kernel_rfl)) <;> (try (conv=>whnf)))
 exact D5 (B0 h0 rfl ⟨rfl,trivial⟩ ⟨rfl,trivial⟩ rfl rfl rfl)
def PB:Nat → Nat → List UInt8
 | 0,_=>[]
 | f + 1,n=>if n < 10 then [UInt8.ofNat (48 + n)] else PB f (n / 10) ++ [UInt8.ofNat (48 + n % 10)]
def o6 (n:Nat):List UInt8:=PB 20 n
theorem Qz:∀ n:Nat,n < 10 → (([48,49,50,51,52,53,54,55,56,57,97,98,99,100,101,102,103,104,105,106,107,108,109,110,111,112,113,114,115,116,117,118,119,120,121,122]:List UInt8).take (n + 1)).drop n = o6 n:=by decide
def Zf:List UInt8:=[48,48,48,49,48,50,48,51,48,52,48,53,48,54,48,55,48,56,48,57,49,48,49,49,49,50,49,51,49,52,49,53,49,54,49,55,49,56,49,57,50,48,50,49,50,50,50,51,50,52,50,53,50,54,50,55,50,56,50,57,51,48,51,49,51,50,51,51,51,52,51,53,51,54,51,55,51,56,51,57,52,48,52,49,52,50,52,51,52,52,52,53,52,54,52,55,52,56,52,57,53,48,53,49,53,50,53,51,53,52,53,53,53,54,53,55,53,56,53,57,54,48,54,49,54,50,54,51,54,52,54,53,54,54,54,55,54,56,54,57,55,48,55,49,55,50,55,51,55,52,55,53,55,54,55,55,55,56,55,57,56,48,56,49,56,50,56,51,56,52,56,53,56,54,56,55,56,56,56,57,57,48,57,49,57,50,57,51,57,52,57,53,57,54,57,55,57,56,57,57]
set_option maxRecDepth 10000 in
theorem RA:∀ n:Nat,n < 100 → 10 ≤ n → (Zf.take (n * 2 + 2)).drop (n * 2) = o6 n:=by decide
set_option maxHeartbeats 2000000 in
theorem PC (n:Nat) (hn:n < 100):B4 Tryz.prog 111 [.i n] (.str (o6 n)):=by
 refine F3 Tryz.func111 15 fun hrd E h0=>?_
 repeat' ((first | (refine G9 ?_ ?_;(refine ⟨by omega,by omega,?_⟩;simp only [List.length_cons,List.length_nil];omega)) | (refine G9 ?_ ?_;(refine ⟨by omega,by omega,?_⟩;(show _ ≤ ((200:Nat):Int));omega)) |refine A4 ?_|refine S1 ?_|refine Z1 ?_|refine Z2 ?_|(refine And.intro ?_ ?_<;>intro h<;>try first|(exfalso;omega)|exact absurd rfl h)|refine Z3 ?_|refine Z4 ?_|intro el hel hbB|intro el hel|intro ex|refine Z5 ?_|(refine A9 ?_ ?_;exact ⟨by kernel_rfl,by decide⟩)|refine A8 ?_ ?_|exact A7|refine A6 ?_ ?_|exact A5|(refine A0 ?_ ?_ ?_;kernel_rfl;kernel_rfl)) <;> (try (conv=>whnf)))
 ·refine B5 rfl (congrArg AV.str ?_)
  rw [← Qz n (by omega)]
  congr 1
 ·refine B5 rfl (congrArg AV.str ?_)
  rw [← RA n hn (by omega)]
  show List.drop ((n:Int) * 2).toNat (List.take ((n:Int) * 2 + 2).toNat Zf) = _
  congr 2
theorem Il (n:Nat) (hn:n < 100):B4 Tryz.prog 90 [.i n, .i 10] (.str (o6 n)):=by
 refine F3 Tryz.func90 54 fun hrd E h0=>?_
 repeat' ((first | refine B2 (PC _ hn) ?_ | (refine E3 ?_ ?_;kernel_rfl) |refine A4 ?_|refine S1 ?_|refine Z1 ?_|refine Z2 ?_|(refine And.intro ?_ ?_<;>intro h<;>try first|(exfalso;omega)|exact absurd rfl h)|refine Z3 ?_|refine Z4 ?_|intro el hel hbB|intro el hel|intro ex|refine Z5 ?_|(refine A9 ?_ ?_;exact ⟨by kernel_rfl,by decide⟩)|refine A8 ?_ ?_|exact A7|refine A6 ?_ ?_|exact A5|(refine A0 ?_ ?_ ?_;kernel_rfl;kernel_rfl)) <;> (try (conv=>whnf)))
 all_goals first
  | exact B5 rfl rfl
theorem PD (n:Nat) (hn:n < 100):B4 Tryz.prog 62 [.i n] (.str (o6 n)):=by
 refine F3 Tryz.func62 5 fun hrd E h0=>?_
 repeat' ((first | refine B2 (Il _ hn) ?_ |refine A4 ?_|refine S1 ?_|refine Z1 ?_|refine Z2 ?_|(refine And.intro ?_ ?_<;>intro h<;>try first|(exfalso;omega)|exact absurd rfl h)|refine Z3 ?_|refine Z4 ?_|intro el hel hbB|intro el hel|intro ex|refine Z5 ?_|(refine A9 ?_ ?_;exact ⟨by kernel_rfl,by decide⟩)|refine A8 ?_ ?_|exact A7|refine A6 ?_ ?_|exact A5|(refine A0 ?_ ?_ ?_;kernel_rfl;kernel_rfl)) <;> (try (conv=>whnf)))
 exact B5 rfl rfl
theorem CF (n:Nat) (hn:n < 100):B4 Tryz.prog 31 [.i n] (.str (o6 n)):=by
 refine F3 Tryz.func31 5 fun hrd E h0=>?_
 repeat' ((first | refine B2 (PD _ hn) ?_ |refine A4 ?_|refine S1 ?_|refine Z1 ?_|refine Z2 ?_|(refine And.intro ?_ ?_<;>intro h<;>try first|(exfalso;omega)|exact absurd rfl h)|refine Z3 ?_|refine Z4 ?_|intro el hel hbB|intro el hel|intro ex|refine Z5 ?_|(refine A9 ?_ ?_;exact ⟨by kernel_rfl,by decide⟩)|refine A8 ?_ ?_|exact A7|refine A6 ?_ ?_|exact A5|(refine A0 ?_ ?_ ?_;kernel_rfl;kernel_rfl)) <;> (try (conv=>whnf)))
 exact B5 rfl rfl
def VE (i:Nat):Code:=⟨[107] ++ o6 i,0⟩
def KT (n p:Nat):Code:=⟨[108] ++ o6 n,1 + p⟩
def Zw:Code:=⟨[116,111,112], -1⟩
def Q7 (kids:Nat):List Code:=Zw :: (List.range kids).map VE
def Bk (cs:List Code) (p:Nat):Nat → List Code
 | 0=>cs
 | k + 1=>Bk (cs ++ [KT cs.length p]) p k
def j5 (l:List UInt8):List Code × Nat → Nat → Nat → List Code × Nat
 | s,_,0=>s
 | s,p,k + 1=>j5 l (Bk s.1 p (1 + (C9 l s.2 2).1),(C9 l s.2 2).2) (p + 1) k
def I2 (l:List UInt8) (a:Nat):List Code × Nat :=
 let kids:=1 + (C9 l a 3).1
 let b:=C9 l (C9 l a 3).2 2
 if b.1 = 1 then (Q7 kids,b.2) else j5 l (Q7 kids,b.2) 0 kids
abbrev Bl:Nat:=79
abbrev lB (l:List UInt8) (a:Nat) (nm:List UInt8) (cs:List Code):Hp:=[(0,some (.box [.sl 1 (l.map T7), .i a])),(1,some (.box [.str nm, .row 2 0 cs.length])),(2,some (.row Bl 2 0 (cs.map cA)))]
theorem NA (i:Nat):(Q7 i) ++ [VE i] = Q7 (i + 1):=by
 unfold Q7
 rw [List.range_succ,List.map_append];rfl
theorem o7 (i:Nat):(Q7 i).length = i + 1:=by simp [Q7]
theorem GA:∀ f n,(PB f n).length ≤ f
 | 0,_=>Nat.le_refl _
 | f + 1,n=>by
   unfold PB
   split
   ·simp
   ·have:=GA f (n / 10)
    simp;omega
theorem w7 (n:Nat):(o6 n).length ≤ 20:=GA 20 n
set_option maxHeartbeats 4000000 in
theorem Jf (l:List UInt8) (a:Nat) (nm:List UInt8) (hl:l.length ≤ 400):B9 Tryz.prog 49 1 (s9 l a) [.ref 0 0, .str nm] 3 (lB l (I2 l a).2 nm (I2 l a).1) (.agg [.str nm, .row 2 0 (I2 l a).1.length]):=by
 have hk3:=N7 l a (n:=3) (by omega)
 generalize hb1:(C9 l a 3).1 = b1 at hk3
 generalize hb2:(C9 l a 3).2 = b2
 refine J1 Tryz.func49 58 fun E h0=>?_
 repeat' ((first | refine Z0 rfl ?_ | refine ⟨b9 [0] [0] (k9 _ _ _ _ hl (by omega) (by omega) (by omega)) rfl rfl rfl rfl rfl ⟨rfl,trivial⟩ rfl rfl rfl rfl rfl ?_⟩ | refine ⟨b9 [0] [0] (Bj _ _ _ hl (by omega)) rfl rfl rfl rfl rfl ⟨rfl,trivial⟩ rfl rfl rfl rfl rfl ?_⟩ |refine A4 ?_|refine S1 ?_|refine Z1 ?_|refine Z2 ?_|(refine And.intro ?_ ?_<;>intro h<;>try first|(exfalso;omega)|exact absurd rfl h)|refine Z3 ?_|refine Z4 ?_|intro el hel hbB|intro el hel|intro ex|refine Z5 ?_|(refine A9 ?_ ?_;exact ⟨by kernel_rfl,by decide⟩)|refine A8 ?_ ?_|exact A7|refine A6 ?_ ?_|exact A5|(refine A0 ?_ ?_ ?_;kernel_rfl;kernel_rfl)) <;> (try (conv=>whnf)))
 refine C2 (ι:=Nat) (fun i=>⟨[(0, .ref 0 0),(4, .ref 1 0),(5, .ref 3 0),(6, .i (1 + b1:Int)),(7, .i i)],4,[(0,some (.box [.sl 1 (l.map T7), .i b2])),(1,some (.box [.str [], .v (.slice none 0 0)])),(2,some (.row Bl 2 0 ((Q7 i).map cA))),(3,some (.box [.str nm, .row 2 0 (Q7 i).length]))]⟩) (fun i=>i ≤ 1 + b1) (fun i=>1 + b1 - i) 0 (Nat.zero_le _) (B0 h0 rfl ⟨rfl,rfl,rfl,by rw [← hb1];rfl,rfl,trivial⟩ ⟨by rw [← hb2];rfl,rfl,⟨0,rfl⟩,rfl,trivial⟩ rfl rfl rfl) (fun i hI=>?_)
 have hil:=w7 i
 have hkl:=o7 i
 repeat' ((first | refine B2 (CF i (by omega)) ?_ | (refine G9 ?_ ?_;(simp only [List.length_cons,List.length_nil];omega)) | refine ⟨b9 [0] [0] (Bj _ _ _ hl (by omega)) rfl rfl rfl rfl rfl ⟨rfl,trivial⟩ rfl rfl rfl rfl rfl ?_⟩ | refine Am ⟨[(0, .ref 0 0),(4, .ref 1 0),(5, .ref 3 0),(6, .i (1 + b1:Int)),(7, .i i)],4,[(0,some (.box [.sl 1 (l.map T7), .i b2])),(1,some (.box [.str [], .v (.slice none 0 0)])),(2,some (.row Bl 2 0 ((Q7 (i + 1)).map cA))),(3,some (.box [.str nm, .row 2 0 (Q7 (i + 1)).length]))]⟩ ?_ ?_ |refine A4 ?_|refine S1 ?_|refine Z1 ?_|refine Z2 ?_|(refine And.intro ?_ ?_<;>intro h<;>try first|(exfalso;omega)|exact absurd rfl h)|refine Z3 ?_|refine Z4 ?_|intro el hel hbB|intro el hel|intro ex|refine Z5 ?_|(refine A9 ?_ ?_;exact ⟨by kernel_rfl,by decide⟩)|refine A8 ?_ ?_|exact A7|refine A6 ?_ ?_|exact A5|(refine A0 ?_ ?_ ?_;kernel_rfl;kernel_rfl)) <;> (try (conv=>whnf)))
 case refine_1.refine_2 =>
  exact ⟨i + 1,by omega,by omega,B0 h0 rfl ⟨rfl,rfl,rfl,rfl,rfl,trivial⟩ ⟨rfl,rfl,⟨0,rfl⟩,rfl,trivial⟩ rfl rfl rfl⟩
 case refine_2.refine_1 =>
  have e:I2 l a = (Q7 (1 + b1),(C9 l b2 2).2):=by
   have:(C9 l b2 2).1 = 1:=by omega
   simp [I2,hb1,hb2,this]
  have ei:i = 1 + b1:=by omega
  subst ei
  rw [e]
  exact JU (i:=1) rfl (B0 h0 rfl ⟨rfl,trivial⟩ ⟨rfl,rfl,⟨0,rfl⟩,trivial⟩ rfl rfl rfl) rfl
 case refine_2.refine_2 =>
  have e:I2 l a = j5 l (Q7 (1 + b1),(C9 l b2 2).2) 0 (1 + b1):=by
   have:¬ (C9 l b2 2).1 = 1:=by omega
   simp [I2,hb1,hb2,this]
  have ei:i = 1 + b1:=by omega
  subst ei
  rw [e]
  clear e h hI hil
  generalize (C9 l b2 2).2 = b3
  refine C2 (ι:=Nat × List Code × Nat) (fun x=>⟨[(0, .ref 0 0),(4, .ref 1 0),(5, .ref 3 0),(6, .i (1 + b1:Int)),(8, .i x.1)],4,[(0,some (.box [.sl 1 (l.map T7), .i x.2.2])),(1,some (.box [.str [], .v (.slice none 0 0)])),(2,some (.row Bl 2 0 (x.2.1.map cA))),(3,some (.box [.str nm, .row 2 0 x.2.1.length]))]⟩)
   (fun x=>x.1 ≤ 1 + b1 ∧ x.2.1.length ≤ 2 + b1 + 2 * x.1 ∧ j5 l (Q7 (1 + b1),b3) 0 (1 + b1) = j5 l x.2 x.1 (1 + b1 - x.1)) (fun x=>1 + b1 - x.1) (0,Q7 (1 + b1),b3) ⟨Nat.zero_le _,by rw [o7];omega,rfl⟩
   (B0 h0 rfl ⟨rfl,rfl,rfl,rfl,rfl,trivial⟩ ⟨rfl,rfl,⟨0,rfl⟩,rfl,trivial⟩ rfl rfl rfl) (fun x hJ=>?_)
  obtain ⟨p,cs,a2⟩:=x
  obtain ⟨hp,hcl,hJ⟩:=hJ
  simp only at hp hcl hJ
  repeat' ((first | refine ⟨b9 [0] [0] (k9 _ _ _ _ hl (by omega) (by omega) (by omega)) rfl rfl rfl rfl rfl ⟨rfl,trivial⟩ rfl rfl rfl rfl rfl ?_⟩ |refine A4 ?_|refine S1 ?_|refine Z1 ?_|refine Z2 ?_|(refine And.intro ?_ ?_<;>intro h<;>try first|(exfalso;omega)|exact absurd rfl h)|refine Z3 ?_|refine Z4 ?_|intro el hel hbB|intro el hel|intro ex|refine Z5 ?_|(refine A9 ?_ ?_;exact ⟨by kernel_rfl,by decide⟩)|refine A8 ?_ ?_|exact A7|refine A6 ?_ ?_|exact A5|(refine A0 ?_ ?_ ?_;kernel_rfl;kernel_rfl)) <;> (try (conv=>whnf)))
  ·simp only at h
   have hk2:=N7 l a2 (n:=2) (by omega)
   generalize hr1:(C9 l a2 2).1 = r1 at hk2
   generalize hr2:(C9 l a2 2).2 = r2
   refine C2 (ι:=List Code × Nat) (fun y=>⟨[(0, .ref 0 0),(4, .ref 1 0),(5, .ref 3 0),(6, .i (1 + b1:Int)),(8, .i p),(9, .i y.2)],4,[(0,some (.box [.sl 1 (l.map T7), .i r2])),(1,some (.box [.str [], .v (.slice none 0 0)])),(2,some (.row Bl 2 0 (y.1.map cA))),(3,some (.box [.str nm, .row 2 0 y.1.length]))]⟩)
    (fun y=>y.2 ≤ 1 + r1 ∧ y.1.length + y.2 = cs.length + 1 + r1 ∧ Bk cs p (1 + r1) = Bk y.1 p y.2) (fun y=>y.2) (cs,1 + r1) ⟨Nat.le_refl _,by simp only;omega,rfl⟩
    (B0 h0 rfl ⟨rfl,rfl,rfl,rfl,rfl,by rw [← hr1];exact congrArg (fun z=>some (AV.i z)) (by show (1:Int) + ((C9 l a2 2).1:Int) = _;simp only;omega),trivial⟩ ⟨by rw [← hr2];rfl,rfl,⟨0,rfl⟩,rfl,trivial⟩ rfl rfl rfl) (fun y hK=>?_)
   obtain ⟨cs',k⟩:=y
   obtain ⟨hk,hlen,hK⟩:=hK
   simp only at hk hlen hK
   have hil:=w7 cs'.length
   repeat' ((first | refine B2 (CF cs'.length (by omega)) ?_ | (refine G9 ?_ ?_;(simp only [List.length_cons,List.length_nil];omega)) | refine Am ⟨[(0, .ref 0 0),(4, .ref 1 0),(5, .ref 3 0),(6, .i (1 + b1:Int)),(8, .i p),(9, .i k)],4,[(0,some (.box [.sl 1 (l.map T7), .i r2])),(1,some (.box [.str [], .v (.slice none 0 0)])),(2,some (.row Bl 2 0 ((cs' ++ [KT cs'.length p]).map cA))),(3,some (.box [.str nm, .row 2 0 (cs' ++ [KT cs'.length p]).length]))]⟩ ?_ ?_ |refine A4 ?_|refine S1 ?_|refine Z1 ?_|refine Z2 ?_|(refine And.intro ?_ ?_<;>intro h<;>try first|(exfalso;omega)|exact absurd rfl h)|refine Z3 ?_|refine Z4 ?_|intro el hel hbB|intro el hel|intro ex|refine Z5 ?_|(refine A9 ?_ ?_;exact ⟨by kernel_rfl,by decide⟩)|refine A8 ?_ ?_|exact A7|refine A6 ?_ ?_|exact A5|(refine A0 ?_ ?_ ?_;kernel_rfl;kernel_rfl)) <;> (try (conv=>whnf)))
   all_goals first
    | exact B0 h0 rfl ⟨rfl,rfl,rfl,rfl,rfl,rfl,trivial⟩ ⟨rfl,rfl,⟨_,congrArg (C6.row Bl 2 _) (by rw [List.map_append];rfl)⟩,congrArg (fun z=>C6.box [AV.str nm, .row 2 0 z]) (by rw [List.length_append];rfl),trivial⟩ rfl rfl rfl
    | skip
   ·simp only at h
    obtain ⟨k',rfl⟩:∃ k',k = k' + 1:=⟨k - 1,by omega⟩
    refine ⟨(cs' ++ [KT cs'.length p],k'),⟨?_,?_,?_⟩,?_,B0 h0 rfl ⟨rfl,rfl,rfl,rfl,rfl,congrArg (fun z=>some (AV.i z)) ?_,trivial⟩ ⟨rfl,rfl,⟨0,rfl⟩,rfl,trivial⟩ rfl rfl rfl⟩
    ·simp only;omega
    ·simp only [List.length_append,List.length_singleton];omega
    ·rw [hK];rfl
    ·simp only;omega
    ·simp only;omega
   ·simp only at h
    have ek:k = 0:=by omega
    subst ek
    refine ⟨(p + 1,cs',r2),⟨?_,?_,?_⟩,?_,B0 h0 rfl ⟨rfl,rfl,rfl,rfl,rfl,trivial⟩ ⟨rfl,rfl,⟨0,rfl⟩,rfl,trivial⟩ rfl rfl rfl⟩
    ·simp only;omega
    ·simp only;omega
    ·obtain ⟨q,hq⟩:∃ q,1 + b1 - p = q + 1:=⟨b1 - p,by omega⟩
     have hq2:1 + b1 - (p + 1) = q:=by omega
     rw [hJ,hq]
     simp only [hq2,j5,hr1,hr2,hK]
     rfl
    ·simp only;omega
  ·simp only at h
   have e1:1 + b1 - p = 0:=by omega
   rw [hJ,e1]
   exact JU (i:=1) rfl (B0 h0 rfl ⟨rfl,trivial⟩ ⟨rfl,rfl,⟨0,rfl⟩,trivial⟩ rfl rfl rfl) rfl
 all_goals exact B0 h0 rfl ⟨rfl,rfl,rfl,rfl,rfl,trivial⟩ ⟨rfl,rfl,⟨_,congrArg (C6.row Bl 2 _) (by rw [← NA,List.map_append];rfl)⟩,congrArg (fun z=>C6.box [AV.str nm, .row 2 0 z]) (by rw [o7,o7];rfl),trivial⟩ rfl rfl rfl
theorem NB (cs:List Code) (p:Nat):∀ k,(Bk cs p k).length = cs.length + k
 | 0=>rfl
 | k + 1=>by
   unfold Bk
   induction k generalizing cs with
   | zero=>simp [Bk]
   | succ k ih=>rw [Bk,ih];simp;omega
theorem KF (l:List UInt8):∀ (k p:Nat) (s:List Code × Nat),s.1.length ≤ (j5 l s p k).1.length ∧ (j5 l s p k).1.length ≤ s.1.length + 2 * k
 | 0,p,s=>⟨Nat.le_refl _,Nat.le_refl _⟩
 | k + 1,p,s=>by
   unfold j5
   have h:=KF l k (p + 1) (Bk s.1 p (1 + (C9 l s.2 2).1),(C9 l s.2 2).2)
   have h2:=N7 l s.2 (n:=2) (by omega)
   rw [NB] at h
   omega
end Go.Proofs.YtiphlhoclaogjabGreatDoor
namespace Go.Proofs.YtiphlhoclaogjabGreatDoor
open Go Go.Av
def lF:List Code → Nat → List Nat → List Code
 | cs,_,[]=>cs
 | cs,p,r :: rs=>lF (Bk cs p r) (p + 1) rs
def Lc:Nat → List (List Nat)
 | 0=>[[]]
 | k + 1=>(Lc k).flatMap fun r=>[1 :: r,2 :: r]
theorem Hf (l:List UInt8):∀ (k p:Nat) (s:List Code × Nat), ∃ rs ∈ Lc k,(j5 l s p k).1 = lF s.1 p rs
 | 0,p,s=>⟨[],by simp [Lc],rfl⟩
 | k + 1,p,s=>by
   have h2:=N7 l s.2 (n:=2) (by omega)
   obtain ⟨rs,h,e⟩:=Hf l k (p + 1) (Bk s.1 p (1 + (C9 l s.2 2).1),(C9 l s.2 2).2)
   refine ⟨(1 + (C9 l s.2 2).1) :: rs,?_,?_⟩
   ·rw [Lc,List.mem_flatMap]
    refine ⟨rs,h,?_⟩
    rcases (show (C9 l s.2 2).1 = 0 ∨ (C9 l s.2 2).1 = 1 by omega) with e | e <;> rw [e] <;> simp
   ·rw [j5,e];rfl
def GB:List (List Code):=[1,2,3].flatMap fun kids=>Q7 kids :: (Lc kids).map fun rs=>lF (Q7 kids) 0 rs
theorem Jg (l:List UInt8) (a:Nat):(I2 l a).1 ∈ GB:=by
 have h3:=N7 l a (n:=3) (by omega)
 unfold GB
 rw [List.mem_flatMap]
 refine ⟨1 + (C9 l a 3).1,?_,?_⟩
 ·rcases (show (C9 l a 3).1 = 0 ∨ (C9 l a 3).1 = 1 ∨ (C9 l a 3).1 = 2 by omega) with e | e | e <;> rw [e] <;> simp
 ·unfold I2
  simp only
  split
  ·simp
  ·obtain ⟨rs,h,e⟩:=Hf l (1 + (C9 l a 3).1) 0 (Q7 (1 + (C9 l a 3).1),(C9 l (C9 l a 3).2 2).2)
   rw [e]
   exact List.mem_cons_of_mem _ (List.mem_map.2 ⟨rs,h,rfl⟩)
end Go.Proofs.YtiphlhoclaogjabGreatDoor
