/- The choices: New, Next, Range, One, Mod. The text of a small number; a drawn list of codes. Chapter 1: a made list in which something is another thing. Chapter 1: the lists that can be drawn are few. -/
import Derived.Test.YthkklceofokkmaaGreatDoorBAvTy
import Derived.Test.YthkklceofokkmaaGreatDoorBE3
import Derived.Test.YthkklceofokkmaaGreatDoorBB4
set_option linter.unusedVariables false
set_option linter.unnecessarySimpa false
set_option linter.unusedSimpArgs false
namespace Go.Proofs.YthkklceofokkmaaGreatDoor
open Go Go.Av
attribute [local irreducible] E5 B7 E6 DQ E8 F0 St.le B3 B5
def B9 (l:List UInt8) (at':Nat) (n:Int):Nat × Nat :=
 if n < 1 ∨ l.length ≤ at' then (0,at')
 else if 256 < n ∧ at' + 1 < l.length then (((l.getD at' 0).toNat * 256 + (l.getD (at' + 1) 0).toNat) % n.toNat,at' + 2)
 else ((l.getD at' 0).toNat % n.toNat,at' + 1)
theorem I0 (l:List UInt8) (at':Nat) {n:Int} (h:1 ≤ n):((B9 l at' n).1:Int) < n:=by
 unfold B9
 split
 ·simp only;omega
 ·have:∀ k:Nat,((k % n.toNat:Nat):Int) < n:=fun k=>by
   have:=Nat.mod_lt k (show 0 < n.toNat by omega)
   omega
  split <;> exact this _
theorem Lo {l:List UInt8} {i:Nat} {c:UInt8} (h:l[i]? = some c):l.getD i 0 = c:=by rw [List.getD_eq_getElem?_getD,h];rfl
theorem XX {l:List UInt8} {a:Nat} {n:Int} (h:n < 1 ∨ l.length ≤ a):B9 l a n = (0,a):=by rw [B9,if_pos h]
theorem aQ {l:List UInt8} {a:Nat} {n:Int} {c:UInt8} (h:1 ≤ n) (hc:l[a]? = some c) (h2:¬ (256 < n ∧ a + 1 < l.length)):B9 l a n = (c.toNat % n.toNat,a + 1):=by
 have:=(List.getElem?_eq_some_iff.1 hc).1
 rw [B9,if_neg (by omega),if_neg h2,Lo hc]
theorem aR {l:List UInt8} {a:Nat} {n:Int} {c d:UInt8} (h:256 < n) (hc:l[a]? = some c) (hd:l[a + 1]? = some d):B9 l a n = ((c.toNat * 256 + d.toNat) % n.toNat,a + 2):=by
 have:=(List.getElem?_eq_some_iff.1 hd).1
 rw [B9,if_neg (by omega),if_pos ⟨h,this⟩,Lo hc,Lo hd]
theorem aS {m n:Nat}:((m:Int).tmod n) = ((m % n:Nat):Int):=by
 rw [Int.tmod_eq_emod_of_nonneg (by omega)];omega
theorem Rp {m:Nat} {n:Int} (h:1 ≤ n):((m:Int).tmod n) = ((m % n.toNat:Nat):Int):=by
 have e:n = (n.toNat:Int):=by omega
 rw [e,aS,Int.toNat_natCast]
theorem aT (k:Int) {n:Int} (h:1 ≤ n):-n < k.tmod n ∧ k.tmod n < n:=⟨by
 have:=Int.lt_tmod_of_pos k (b:=n) (by omega);omega,Int.tmod_lt_of_pos k (by omega)⟩
abbrev D9 (l:List UInt8) (a:Nat):Hp:=[(0,some (.box [.sl 1 (l.map S6), .i a]))]
set_option maxHeartbeats 1000000 in
theorem Jh (l:List UInt8) (hl:l.length ≤ 9223372036854775807):B5 Tryz.prog 9 0 [] [.sl 1 (l.map S6)] 1 (D9 (l.take 400) 0) (.ref 0 0):=by
 refine G3 Tryz.func9 10 fun E h0=>?_
 repeat' ((first|refine A1 ?_|refine S1 ?_|refine Z1 ?_|refine Z2 ?_|(refine And.intro ?_ ?_<;>intro h<;>try first|(exfalso;omega)|exact absurd rfl h)|refine Z3 ?_|refine Z4 ?_|intro el hel hbB|intro el hel|intro ex|refine Z5 ?_|(refine A8 ?_ ?_;exact ⟨by kernel_rfl,by decide⟩)|refine A7 ?_ ?_|exact A6|refine A3 ?_ ?_|exact A2|(refine A0 ?_ ?_ ?_;kernel_rfl;kernel_rfl)) <;> (try (conv=>whnf)))
 refine D4 (A5 h0 rfl ⟨rfl,trivial⟩ ⟨congrArg (fun z=>H4.box [AV.sl 1 z, .i 0]) ?_,trivial⟩ rfl rfl rfl)
 rw [show (min (l.length:Int) 400).toNat = min l.length 400 by omega, ← List.map_take]
 show _ = List.map S6 (List.take (min l.length 400) l)
 congr 1
 by_cases h:l.length ≤ 400
 ·rw [Nat.min_eq_left h,List.take_of_length_le h,List.take_of_length_le (Nat.le_refl _)]
 ·rw [Nat.min_eq_right (by omega)]
set_option maxHeartbeats 2000000 in
theorem J9 (l:List UInt8) (a:Nat) (n:Int) (hl:l.length ≤ 400):B5 Tryz.prog 29 1 (D9 l a) [.ref 0 0, .i n] 1 (D9 l (B9 l a n).2) (.i (B9 l a n).1):=by
 refine G3 Tryz.func29 77 fun E h0=>?_
 repeat' ((first | (refine J2 ?_ ?_;kernel_rfl) |refine A1 ?_|refine S1 ?_|refine Z1 ?_|refine Z2 ?_|(refine And.intro ?_ ?_<;>intro h<;>try first|(exfalso;omega)|exact absurd rfl h)|refine Z3 ?_|refine Z4 ?_|intro el hel hbB|intro el hel|intro ex|refine Z5 ?_|(refine A8 ?_ ?_;exact ⟨by kernel_rfl,by decide⟩)|refine A7 ?_ ?_|exact A6|refine A3 ?_ ?_|exact A2|(refine A0 ?_ ?_ ?_;kernel_rfl;kernel_rfl)) <;> (try (conv=>whnf)))
 all_goals first
  | (rw [XX (by omega)];exact D4 (A5 h0 rfl ⟨rfl,trivial⟩ ⟨rfl,trivial⟩ rfl rfl rfl))
  | skip
 ·rename_i el1 hel1 _ _
  have e1:l[a]? = some el1:=by rw [← hel1];congr 1;omega
  have e2:l[a + 1]? = some el:=by rw [← hel];congr 1
  rw [aR (by assumption) e1 e2]
  refine D4 (A5 h0 rfl ⟨congrArg (fun z=>some (AV.i z)) ?_,trivial⟩ ⟨congrArg (fun z=>H4.box [AV.sl 1 (l.map S6), .i z]) ?_,trivial⟩ rfl rfl rfl)
  ·rw [← Rp (by omega)];rfl
  ·omega
 all_goals
  have e1:l[a]? = some el:=by rw [← hel];congr 1;omega
  rw [aQ (by omega) e1 (by omega)]
  exact D4 (A5 h0 rfl ⟨congrArg (fun z=>some (AV.i z)) ((Rp (m:=el.toNat) (n:=n) (by omega))),trivial⟩ ⟨rfl,trivial⟩ rfl rfl rfl)
def GR (k n:Int):Int:=if n < 1 then 0 else k % n
theorem Fa {k n:Int} (h:1 ≤ n):0 ≤ GR k n ∧ GR k n < n:=by
 rw [GR,if_neg (by omega)]
 exact ⟨Int.emod_nonneg _ (by omega),Int.emod_lt_of_pos _ (by omega)⟩
theorem Mx (k:Int) {n:Int} (h:1 ≤ n):(k.tmod n < 0 ∧ k % n = k.tmod n + n) ∨ (0 ≤ k.tmod n ∧ k % n = k.tmod n):=by
 have h2:k % n = (k.tmod n) % n:=by
  have:=Int.mul_tdiv_add_tmod k n
  conv=>lhs;rw [← this]
  rw [Int.add_comm,Int.add_mul_emod_self_left]
 have hb:-n < k.tmod n ∧ k.tmod n < n:=⟨by have:=Int.lt_tmod_of_pos k (b:=n) (by omega);omega,Int.tmod_lt_of_pos k (by omega)⟩
 by_cases hneg:k.tmod n < 0
 ·left
  refine ⟨hneg,?_⟩
  rw [h2, ← Int.add_emod_right,Int.emod_eq_of_lt (by omega) (by omega)]
 ·right
  refine ⟨by omega,?_⟩
  rw [h2,Int.emod_eq_of_lt (by omega) (by omega)]
theorem PE (k n:Int) (hn:n ≤ 9223372036854775807):B3 Tryz.prog 12 [.i k, .i n] (.i (GR k n)):=by
 have hb:=fun h:1 ≤ n=>aT k h
 refine F7 Tryz.func12 16 fun hrd E h0=>?_
 repeat' ((first | (refine G2 ?_ ?_;(have:=hb (by omega);omega)) |refine A1 ?_|refine S1 ?_|refine Z1 ?_|refine Z2 ?_|(refine And.intro ?_ ?_<;>intro h<;>try first|(exfalso;omega)|exact absurd rfl h)|refine Z3 ?_|refine Z4 ?_|intro el hel hbB|intro el hel|intro ex|refine Z5 ?_|(refine A8 ?_ ?_;exact ⟨by kernel_rfl,by decide⟩)|refine A7 ?_ ?_|exact A6|refine A3 ?_ ?_|exact A2|(refine A0 ?_ ?_ ?_;kernel_rfl;kernel_rfl)) <;> (try (conv=>whnf)))
 ·exact A9 rfl (congrArg AV.i (by rw [GR,if_pos h]))
 ·refine A9 rfl (congrArg AV.i ?_)
  have hn1:1 ≤ n:=by omega
  have:=Mx k hn1
  rw [GR,if_neg (by omega)];omega
 ·refine A9 rfl (congrArg AV.i ?_)
  have hn1:1 ≤ n:=by omega
  have:=Mx k hn1
  rw [GR,if_neg (by omega)];omega
theorem Y0 (l:List UInt8) (a:Nat) (lo hi:Int) (hl:l.length ≤ 400) (h1:lo ≤ hi) (h2:-4000000000000000000 ≤ lo) (h3:hi ≤ 4000000000000000000):B5 Tryz.prog 26 1 (D9 l a) [.ref 0 0, .i lo, .i hi] 1 (D9 l (B9 l a (hi - lo + 1)).2) (.i (lo + (B9 l a (hi - lo + 1)).1)):=by
 have hlt:=I0 l a (n:=hi - lo + 1) (by omega)
 refine G3 Tryz.func26 15 fun E h0=>?_
 repeat' ((first | refine ⟨y8 [0] [0] (J9 _ _ _ hl) rfl rfl rfl rfl rfl ⟨rfl,trivial⟩ rfl rfl rfl rfl rfl ?_⟩ |refine A1 ?_|refine S1 ?_|refine Z1 ?_|refine Z2 ?_|(refine And.intro ?_ ?_<;>intro h<;>try first|(exfalso;omega)|exact absurd rfl h)|refine Z3 ?_|refine Z4 ?_|intro el hel hbB|intro el hel|intro ex|refine Z5 ?_|(refine A8 ?_ ?_;exact ⟨by kernel_rfl,by decide⟩)|refine A7 ?_ ?_|exact A6|refine A3 ?_ ?_|exact A2|(refine A0 ?_ ?_ ?_;kernel_rfl;kernel_rfl)) <;> (try (conv=>whnf)))
 exact D4 (A5 h0 rfl ⟨rfl,trivial⟩ ⟨rfl,trivial⟩ rfl rfl rfl)
theorem AY (l:List UInt8) (a:Nat) (n:Int) (hl:l.length ≤ 400) (hn:1 ≤ n ∧ n ≤ 1000000):B5 Tryz.prog 25 1 (D9 l a) [.ref 0 0, .i n] 1 (D9 l (B9 l a n).2) (.b (decide (((B9 l a n).1:Int) = n - 1))):=by
 refine G3 Tryz.func25 11 fun E h0=>?_
 repeat' ((first | refine ⟨y8 [0] [0] (J9 _ _ _ hl) rfl rfl rfl rfl rfl ⟨rfl,trivial⟩ rfl rfl rfl rfl rfl ?_⟩ |refine A1 ?_|refine S1 ?_|refine Z1 ?_|refine Z2 ?_|(refine And.intro ?_ ?_<;>intro h<;>try first|(exfalso;omega)|exact absurd rfl h)|refine Z3 ?_|refine Z4 ?_|intro el hel hbB|intro el hel|intro ex|refine Z5 ?_|(refine A8 ?_ ?_;exact ⟨by kernel_rfl,by decide⟩)|refine A7 ?_ ?_|exact A6|refine A3 ?_ ?_|exact A2|(refine A0 ?_ ?_ ?_;kernel_rfl;kernel_rfl)) <;> (try (conv=>whnf)))
 exact D4 (A5 h0 rfl ⟨rfl,trivial⟩ ⟨rfl,trivial⟩ rfl rfl rfl)
def TO:Nat → Nat → List UInt8
 | 0,_=>[]
 | f + 1,n=>if n < 10 then [UInt8.ofNat (48 + n)] else TO f (n / 10) ++ [UInt8.ofNat (48 + n % 10)]
def M4 (n:Nat):List UInt8:=TO 20 n
theorem VO:∀ n:Nat,n < 10 → (([48,49,50,51,52,53,54,55,56,57,97,98,99,100,101,102,103,104,105,106,107,108,109,110,111,112,113,114,115,116,117,118,119,120,121,122]:List UInt8).take (n + 1)).drop n = M4 n:=by decide
def fG:List UInt8:=[48,48,48,49,48,50,48,51,48,52,48,53,48,54,48,55,48,56,48,57,49,48,49,49,49,50,49,51,49,52,49,53,49,54,49,55,49,56,49,57,50,48,50,49,50,50,50,51,50,52,50,53,50,54,50,55,50,56,50,57,51,48,51,49,51,50,51,51,51,52,51,53,51,54,51,55,51,56,51,57,52,48,52,49,52,50,52,51,52,52,52,53,52,54,52,55,52,56,52,57,53,48,53,49,53,50,53,51,53,52,53,53,53,54,53,55,53,56,53,57,54,48,54,49,54,50,54,51,54,52,54,53,54,54,54,55,54,56,54,57,55,48,55,49,55,50,55,51,55,52,55,53,55,54,55,55,55,56,55,57,56,48,56,49,56,50,56,51,56,52,56,53,56,54,56,55,56,56,56,57,57,48,57,49,57,50,57,51,57,52,57,53,57,54,57,55,57,56,57,57]
set_option maxRecDepth 10000 in
theorem VP:∀ n:Nat,n < 100 → 10 ≤ n → (fG.take (n * 2 + 2)).drop (n * 2) = M4 n:=by decide
set_option maxHeartbeats 2000000 in
theorem TP (n:Nat) (hn:n < 100):B3 Tryz.prog 154 [.i n] (.str (M4 n)):=by
 refine F7 Tryz.func154 15 fun hrd E h0=>?_
 repeat' ((first | (refine G2 ?_ ?_;(refine ⟨by omega,by omega,?_⟩;simp only [List.length_cons,List.length_nil];omega)) | (refine G2 ?_ ?_;(refine ⟨by omega,by omega,?_⟩;(show _ ≤ ((200:Nat):Int));omega)) |refine A1 ?_|refine S1 ?_|refine Z1 ?_|refine Z2 ?_|(refine And.intro ?_ ?_<;>intro h<;>try first|(exfalso;omega)|exact absurd rfl h)|refine Z3 ?_|refine Z4 ?_|intro el hel hbB|intro el hel|intro ex|refine Z5 ?_|(refine A8 ?_ ?_;exact ⟨by kernel_rfl,by decide⟩)|refine A7 ?_ ?_|exact A6|refine A3 ?_ ?_|exact A2|(refine A0 ?_ ?_ ?_;kernel_rfl;kernel_rfl)) <;> (try (conv=>whnf)))
 ·refine A9 rfl (congrArg AV.str ?_)
  rw [← VO n (by omega)]
  congr 1
 ·refine A9 rfl (congrArg AV.str ?_)
  rw [← VP n hn (by omega)]
  show List.drop ((n:Int) * 2).toNat (List.take ((n:Int) * 2 + 2).toNat fG) = _
  congr 2
theorem Lp (n:Nat) (hn:n < 100):B3 Tryz.prog 111 [.i n, .i 10] (.str (M4 n)):=by
 refine F7 Tryz.func111 54 fun hrd E h0=>?_
 repeat' ((first | refine B0 (TP _ hn) ?_ | (refine J2 ?_ ?_;kernel_rfl) |refine A1 ?_|refine S1 ?_|refine Z1 ?_|refine Z2 ?_|(refine And.intro ?_ ?_<;>intro h<;>try first|(exfalso;omega)|exact absurd rfl h)|refine Z3 ?_|refine Z4 ?_|intro el hel hbB|intro el hel|intro ex|refine Z5 ?_|(refine A8 ?_ ?_;exact ⟨by kernel_rfl,by decide⟩)|refine A7 ?_ ?_|exact A6|refine A3 ?_ ?_|exact A2|(refine A0 ?_ ?_ ?_;kernel_rfl;kernel_rfl)) <;> (try (conv=>whnf)))
 all_goals first
  | exact A9 rfl rfl
theorem TQ (n:Nat) (hn:n < 100):B3 Tryz.prog 62 [.i n] (.str (M4 n)):=by
 refine F7 Tryz.func62 5 fun hrd E h0=>?_
 repeat' ((first | refine B0 (Lp _ hn) ?_ |refine A1 ?_|refine S1 ?_|refine Z1 ?_|refine Z2 ?_|(refine And.intro ?_ ?_<;>intro h<;>try first|(exfalso;omega)|exact absurd rfl h)|refine Z3 ?_|refine Z4 ?_|intro el hel hbB|intro el hel|intro ex|refine Z5 ?_|(refine A8 ?_ ?_;exact ⟨by kernel_rfl,by decide⟩)|refine A7 ?_ ?_|exact A6|refine A3 ?_ ?_|exact A2|(refine A0 ?_ ?_ ?_;kernel_rfl;kernel_rfl)) <;> (try (conv=>whnf)))
 exact A9 rfl rfl
theorem Bj (n:Nat) (hn:n < 100):B3 Tryz.prog 28 [.i n] (.str (M4 n)):=by
 refine F7 Tryz.func28 5 fun hrd E h0=>?_
 repeat' ((first | refine B0 (TQ _ hn) ?_ |refine A1 ?_|refine S1 ?_|refine Z1 ?_|refine Z2 ?_|(refine And.intro ?_ ?_<;>intro h<;>try first|(exfalso;omega)|exact absurd rfl h)|refine Z3 ?_|refine Z4 ?_|intro el hel hbB|intro el hel|intro ex|refine Z5 ?_|(refine A8 ?_ ?_;exact ⟨by kernel_rfl,by decide⟩)|refine A7 ?_ ?_|exact A6|refine A3 ?_ ?_|exact A2|(refine A0 ?_ ?_ ?_;kernel_rfl;kernel_rfl)) <;> (try (conv=>whnf)))
 exact A9 rfl rfl
def Za (i:Nat):Code:=⟨[107] ++ M4 i,0⟩
def Nv (n p:Nat):Code:=⟨[108] ++ M4 n,1 + p⟩
def fS:Code:=⟨[116,111,112], -1⟩
def U3 (kids:Nat):List Code:=fS :: (List.range kids).map Za
def EO (cs:List Code) (p:Nat):Nat → List Code
 | 0=>cs
 | k + 1=>EO (cs ++ [Nv cs.length p]) p k
def AZ (l:List UInt8):List Code × Nat → Nat → Nat → List Code × Nat
 | s,_,0=>s
 | s,p,k + 1=>AZ l (EO s.1 p (1 + (B9 l s.2 2).1),(B9 l s.2 2).2) (p + 1) k
def K1 (l:List UInt8) (a:Nat):List Code × Nat :=
 let kids:=1 + (B9 l a 3).1
 let b:=B9 l (B9 l a 3).2 2
 if b.1 = 1 then (U3 kids,b.2) else AZ l (U3 kids,b.2) 0 kids
abbrev My:Nat:=64
abbrev lB (l:List UInt8) (a:Nat) (nm:List UInt8) (cs:List Code):Hp:=[(0,some (.box [.sl 1 (l.map S6), .i a])),(1,some (.box [.str nm, .row 2 0 cs.length])),(2,some (.row My 2 0 (cs.map cA)))]
theorem Qz (i:Nat):(U3 i) ++ [Za i] = U3 (i + 1):=by
 unfold U3
 rw [List.range_succ,List.map_append];rfl
theorem BI (i:Nat):(U3 i).length = i + 1:=by simp [U3]
theorem JI:∀ f n,(TO f n).length ≤ f
 | 0,_=>Nat.le_refl _
 | f + 1,n=>by
   unfold TO
   split
   ·simp
   ·have:=JI f (n / 10)
    simp;omega
theorem o8 (n:Nat):(M4 n).length ≤ 20:=JI 20 n
set_option maxHeartbeats 4000000 in
theorem Mz (l:List UInt8) (a:Nat) (nm:List UInt8) (hl:l.length ≤ 400):B5 Tryz.prog 24 1 (D9 l a) [.ref 0 0, .str nm] 3 (lB l (K1 l a).2 nm (K1 l a).1) (.agg [.str nm, .row 2 0 (K1 l a).1.length]):=by
 have hk3:=I0 l a (n:=3) (by omega)
 generalize hb1:(B9 l a 3).1 = b1 at hk3
 generalize hb2:(B9 l a 3).2 = b2
 refine G3 Tryz.func24 58 fun E h0=>?_
 repeat' ((first | refine HY rfl ?_ | refine ⟨y8 [0] [0] (Y0 _ _ _ _ hl (by omega) (by omega) (by omega)) rfl rfl rfl rfl rfl ⟨rfl,trivial⟩ rfl rfl rfl rfl rfl ?_⟩ | refine ⟨y8 [0] [0] (AY _ _ _ hl (by omega)) rfl rfl rfl rfl rfl ⟨rfl,trivial⟩ rfl rfl rfl rfl rfl ?_⟩ |refine A1 ?_|refine S1 ?_|refine Z1 ?_|refine Z2 ?_|(refine And.intro ?_ ?_<;>intro h<;>try first|(exfalso;omega)|exact absurd rfl h)|refine Z3 ?_|refine Z4 ?_|intro el hel hbB|intro el hel|intro ex|refine Z5 ?_|(refine A8 ?_ ?_;exact ⟨by kernel_rfl,by decide⟩)|refine A7 ?_ ?_|exact A6|refine A3 ?_ ?_|exact A2|(refine A0 ?_ ?_ ?_;kernel_rfl;kernel_rfl)) <;> (try (conv=>whnf)))
 refine D8 (ι:=Nat) (fun i=>⟨[(0, .ref 0 0),(4, .ref 1 0),(5, .ref 3 0),(6, .i (1 + b1:Int)),(7, .i i)],4,[(0,some (.box [.sl 1 (l.map S6), .i b2])),(1,some (.box [.str [], .v (.slice none 0 0)])),(2,some (.row My 2 0 ((U3 i).map cA))),(3,some (.box [.str nm, .row 2 0 (U3 i).length]))]⟩) (fun i=>i ≤ 1 + b1) (fun i=>1 + b1 - i) 0 (Nat.zero_le _) (A5 h0 rfl ⟨rfl,rfl,rfl,by rw [← hb1];rfl,rfl,trivial⟩ ⟨by rw [← hb2];rfl,rfl,⟨0,rfl⟩,rfl,trivial⟩ rfl rfl rfl) (fun i hI=>?_)
 have hil:=o8 i
 have hkl:=BI i
 repeat' ((first | refine B0 (Bj i (by omega)) ?_ | (refine G2 ?_ ?_;(simp only [List.length_cons,List.length_nil];omega)) | refine ⟨y8 [0] [0] (AY _ _ _ hl (by omega)) rfl rfl rfl rfl rfl ⟨rfl,trivial⟩ rfl rfl rfl rfl rfl ?_⟩ | refine CB ⟨[(0, .ref 0 0),(4, .ref 1 0),(5, .ref 3 0),(6, .i (1 + b1:Int)),(7, .i i)],4,[(0,some (.box [.sl 1 (l.map S6), .i b2])),(1,some (.box [.str [], .v (.slice none 0 0)])),(2,some (.row My 2 0 ((U3 (i + 1)).map cA))),(3,some (.box [.str nm, .row 2 0 (U3 (i + 1)).length]))]⟩ ?_ ?_ |refine A1 ?_|refine S1 ?_|refine Z1 ?_|refine Z2 ?_|(refine And.intro ?_ ?_<;>intro h<;>try first|(exfalso;omega)|exact absurd rfl h)|refine Z3 ?_|refine Z4 ?_|intro el hel hbB|intro el hel|intro ex|refine Z5 ?_|(refine A8 ?_ ?_;exact ⟨by kernel_rfl,by decide⟩)|refine A7 ?_ ?_|exact A6|refine A3 ?_ ?_|exact A2|(refine A0 ?_ ?_ ?_;kernel_rfl;kernel_rfl)) <;> (try (conv=>whnf)))
 case refine_1.refine_2 =>
  exact ⟨i + 1,by omega,by omega,A5 h0 rfl ⟨rfl,rfl,rfl,rfl,rfl,trivial⟩ ⟨rfl,rfl,⟨0,rfl⟩,rfl,trivial⟩ rfl rfl rfl⟩
 case refine_2.refine_1 =>
  have e:K1 l a = (U3 (1 + b1),(B9 l b2 2).2):=by
   have:(B9 l b2 2).1 = 1:=by omega
   simp [K1,hb1,hb2,this]
  have ei:i = 1 + b1:=by omega
  subst ei
  rw [e]
  exact Mo (i:=1) rfl (A5 h0 rfl ⟨rfl,trivial⟩ ⟨rfl,rfl,⟨0,rfl⟩,trivial⟩ rfl rfl rfl) rfl
 case refine_2.refine_2 =>
  have e:K1 l a = AZ l (U3 (1 + b1),(B9 l b2 2).2) 0 (1 + b1):=by
   have:¬ (B9 l b2 2).1 = 1:=by omega
   simp [K1,hb1,hb2,this]
  have ei:i = 1 + b1:=by omega
  subst ei
  rw [e]
  clear e h hI hil
  generalize (B9 l b2 2).2 = b3
  refine D8 (ι:=Nat × List Code × Nat) (fun x=>⟨[(0, .ref 0 0),(4, .ref 1 0),(5, .ref 3 0),(6, .i (1 + b1:Int)),(8, .i x.1)],4,[(0,some (.box [.sl 1 (l.map S6), .i x.2.2])),(1,some (.box [.str [], .v (.slice none 0 0)])),(2,some (.row My 2 0 (x.2.1.map cA))),(3,some (.box [.str nm, .row 2 0 x.2.1.length]))]⟩)
   (fun x=>x.1 ≤ 1 + b1 ∧ x.2.1.length ≤ 2 + b1 + 2 * x.1 ∧ AZ l (U3 (1 + b1),b3) 0 (1 + b1) = AZ l x.2 x.1 (1 + b1 - x.1)) (fun x=>1 + b1 - x.1) (0,U3 (1 + b1),b3) ⟨Nat.zero_le _,by rw [BI];omega,rfl⟩
   (A5 h0 rfl ⟨rfl,rfl,rfl,rfl,rfl,trivial⟩ ⟨rfl,rfl,⟨0,rfl⟩,rfl,trivial⟩ rfl rfl rfl) (fun x hJ=>?_)
  obtain ⟨p,cs,a2⟩:=x
  obtain ⟨hp,hcl,hJ⟩:=hJ
  simp only at hp hcl hJ
  repeat' ((first | refine ⟨y8 [0] [0] (Y0 _ _ _ _ hl (by omega) (by omega) (by omega)) rfl rfl rfl rfl rfl ⟨rfl,trivial⟩ rfl rfl rfl rfl rfl ?_⟩ |refine A1 ?_|refine S1 ?_|refine Z1 ?_|refine Z2 ?_|(refine And.intro ?_ ?_<;>intro h<;>try first|(exfalso;omega)|exact absurd rfl h)|refine Z3 ?_|refine Z4 ?_|intro el hel hbB|intro el hel|intro ex|refine Z5 ?_|(refine A8 ?_ ?_;exact ⟨by kernel_rfl,by decide⟩)|refine A7 ?_ ?_|exact A6|refine A3 ?_ ?_|exact A2|(refine A0 ?_ ?_ ?_;kernel_rfl;kernel_rfl)) <;> (try (conv=>whnf)))
  ·simp only at h
   have hk2:=I0 l a2 (n:=2) (by omega)
   generalize hr1:(B9 l a2 2).1 = r1 at hk2
   generalize hr2:(B9 l a2 2).2 = r2
   refine D8 (ι:=List Code × Nat) (fun y=>⟨[(0, .ref 0 0),(4, .ref 1 0),(5, .ref 3 0),(6, .i (1 + b1:Int)),(8, .i p),(9, .i y.2)],4,[(0,some (.box [.sl 1 (l.map S6), .i r2])),(1,some (.box [.str [], .v (.slice none 0 0)])),(2,some (.row My 2 0 (y.1.map cA))),(3,some (.box [.str nm, .row 2 0 y.1.length]))]⟩)
    (fun y=>y.2 ≤ 1 + r1 ∧ y.1.length + y.2 = cs.length + 1 + r1 ∧ EO cs p (1 + r1) = EO y.1 p y.2) (fun y=>y.2) (cs,1 + r1) ⟨Nat.le_refl _,by simp only;omega,rfl⟩
    (A5 h0 rfl ⟨rfl,rfl,rfl,rfl,rfl,by rw [← hr1];exact congrArg (fun z=>some (AV.i z)) (by show (1:Int) + ((B9 l a2 2).1:Int) = _;simp only;omega),trivial⟩ ⟨by rw [← hr2];rfl,rfl,⟨0,rfl⟩,rfl,trivial⟩ rfl rfl rfl) (fun y hK=>?_)
   obtain ⟨cs',k⟩:=y
   obtain ⟨hk,hlen,hK⟩:=hK
   simp only at hk hlen hK
   have hil:=o8 cs'.length
   repeat' ((first | refine B0 (Bj cs'.length (by omega)) ?_ | (refine G2 ?_ ?_;(simp only [List.length_cons,List.length_nil];omega)) | refine CB ⟨[(0, .ref 0 0),(4, .ref 1 0),(5, .ref 3 0),(6, .i (1 + b1:Int)),(8, .i p),(9, .i k)],4,[(0,some (.box [.sl 1 (l.map S6), .i r2])),(1,some (.box [.str [], .v (.slice none 0 0)])),(2,some (.row My 2 0 ((cs' ++ [Nv cs'.length p]).map cA))),(3,some (.box [.str nm, .row 2 0 (cs' ++ [Nv cs'.length p]).length]))]⟩ ?_ ?_ |refine A1 ?_|refine S1 ?_|refine Z1 ?_|refine Z2 ?_|(refine And.intro ?_ ?_<;>intro h<;>try first|(exfalso;omega)|exact absurd rfl h)|refine Z3 ?_|refine Z4 ?_|intro el hel hbB|intro el hel|intro ex|refine Z5 ?_|(refine A8 ?_ ?_;exact ⟨by kernel_rfl,by decide⟩)|refine A7 ?_ ?_|exact A6|refine A3 ?_ ?_|exact A2|(refine A0 ?_ ?_ ?_;kernel_rfl;kernel_rfl)) <;> (try (conv=>whnf)))
   all_goals first
    | exact A5 h0 rfl ⟨rfl,rfl,rfl,rfl,rfl,rfl,trivial⟩ ⟨rfl,rfl,⟨_,congrArg (H4.row My 2 _) (by rw [List.map_append];rfl)⟩,congrArg (fun z=>H4.box [AV.str nm, .row 2 0 z]) (by rw [List.length_append];rfl),trivial⟩ rfl rfl rfl
    | skip
   ·simp only at h
    obtain ⟨k',rfl⟩:∃ k',k = k' + 1:=⟨k - 1,by omega⟩
    refine ⟨(cs' ++ [Nv cs'.length p],k'),⟨?_,?_,?_⟩,?_,A5 h0 rfl ⟨rfl,rfl,rfl,rfl,rfl,congrArg (fun z=>some (AV.i z)) ?_,trivial⟩ ⟨rfl,rfl,⟨0,rfl⟩,rfl,trivial⟩ rfl rfl rfl⟩
    ·simp only;omega
    ·simp only [List.length_append,List.length_singleton];omega
    ·rw [hK];rfl
    ·simp only;omega
    ·simp only;omega
   ·simp only at h
    have ek:k = 0:=by omega
    subst ek
    refine ⟨(p + 1,cs',r2),⟨?_,?_,?_⟩,?_,A5 h0 rfl ⟨rfl,rfl,rfl,rfl,rfl,trivial⟩ ⟨rfl,rfl,⟨0,rfl⟩,rfl,trivial⟩ rfl rfl rfl⟩
    ·simp only;omega
    ·simp only;omega
    ·obtain ⟨q,hq⟩:∃ q,1 + b1 - p = q + 1:=⟨b1 - p,by omega⟩
     have hq2:1 + b1 - (p + 1) = q:=by omega
     rw [hJ,hq]
     simp only [hq2,AZ,hr1,hr2,hK]
     rfl
    ·simp only;omega
  ·simp only at h
   have e1:1 + b1 - p = 0:=by omega
   rw [hJ,e1]
   exact Mo (i:=1) rfl (A5 h0 rfl ⟨rfl,trivial⟩ ⟨rfl,rfl,⟨0,rfl⟩,trivial⟩ rfl rfl rfl) rfl
 all_goals exact A5 h0 rfl ⟨rfl,rfl,rfl,rfl,rfl,trivial⟩ ⟨rfl,rfl,⟨_,congrArg (H4.row My 2 _) (by rw [← Qz,List.map_append];rfl)⟩,congrArg (fun z=>H4.box [AV.str nm, .row 2 0 z]) (by rw [BI,BI];rfl),trivial⟩ rfl rfl rfl
theorem RA (cs:List Code) (p:Nat):∀ k,(EO cs p k).length = cs.length + k
 | 0=>rfl
 | k + 1=>by
   unfold EO
   induction k generalizing cs with
   | zero=>simp [EO]
   | succ k ih=>rw [EO,ih];simp;omega
theorem Nb (l:List UInt8):∀ (k p:Nat) (s:List Code × Nat),s.1.length ≤ (AZ l s p k).1.length ∧ (AZ l s p k).1.length ≤ s.1.length + 2 * k
 | 0,p,s=>⟨Nat.le_refl _,Nat.le_refl _⟩
 | k + 1,p,s=>by
   unfold AZ
   have h:=Nb l k (p + 1) (EO s.1 p (1 + (B9 l s.2 2).1),(B9 l s.2 2).2)
   have h2:=I0 l s.2 (n:=2) (by omega)
   rw [RA] at h
   omega
end Go.Proofs.YthkklceofokkmaaGreatDoor
namespace Go.Proofs.YthkklceofokkmaaGreatDoor
open Go Go.Av
def lF:List Code → Nat → List Nat → List Code
 | cs,_,[]=>cs
 | cs,p,r :: rs=>lF (EO cs p r) (p + 1) rs
def PF:Nat → List (List Nat)
 | 0=>[[]]
 | k + 1=>(PF k).flatMap fun r=>[1 :: r,2 :: r]
theorem Kx (l:List UInt8):∀ (k p:Nat) (s:List Code × Nat), ∃ rs ∈ PF k,(AZ l s p k).1 = lF s.1 p rs
 | 0,p,s=>⟨[],by simp [PF],rfl⟩
 | k + 1,p,s=>by
   have h2:=I0 l s.2 (n:=2) (by omega)
   obtain ⟨rs,h,e⟩:=Kx l k (p + 1) (EO s.1 p (1 + (B9 l s.2 2).1),(B9 l s.2 2).2)
   refine ⟨(1 + (B9 l s.2 2).1) :: rs,?_,?_⟩
   ·rw [PF,List.mem_flatMap]
    refine ⟨rs,h,?_⟩
    rcases (show (B9 l s.2 2).1 = 0 ∨ (B9 l s.2 2).1 = 1 by omega) with e | e <;> rw [e] <;> simp
   ·rw [AZ,e];rfl
def Ky:List (List Code):=[1,2,3].flatMap fun kids=>U3 kids :: (PF kids).map fun rs=>lF (U3 kids) 0 rs
theorem NA (l:List UInt8) (a:Nat):(K1 l a).1 ∈ Ky:=by
 have h3:=I0 l a (n:=3) (by omega)
 unfold Ky
 rw [List.mem_flatMap]
 refine ⟨1 + (B9 l a 3).1,?_,?_⟩
 ·rcases (show (B9 l a 3).1 = 0 ∨ (B9 l a 3).1 = 1 ∨ (B9 l a 3).1 = 2 by omega) with e | e | e <;> rw [e] <;> simp
 ·unfold K1
  simp only
  split
  ·simp
  ·obtain ⟨rs,h,e⟩:=Kx l (1 + (B9 l a 3).1) 0 (U3 (1 + (B9 l a 3).1),(B9 l (B9 l a 3).2 2).2)
   rw [e]
   exact List.mem_cons_of_mem _ (List.mem_map.2 ⟨rs,h,rfl⟩)
end Go.Proofs.YthkklceofokkmaaGreatDoor
