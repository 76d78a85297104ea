/- Chapter 3: the law's own decimal words. -/
import Derived.Test.YtiphlhoclaogjabGreatDoorQKa0
import Derived.Test.YtiphlhoclaogjabGreatDoorQF7
set_option linter.unusedVariables false
set_option linter.unnecessarySimpa false
set_option linter.unusedSimpArgs false
namespace Go.Proofs.YtiphlhoclaogjabGreatDoor
open Go Go.Av
attribute [local irreducible] D6 B8 D8 D7 DQ E0 E1 St.le B4 B9
set_option maxRecDepth 100000
theorem Ma {m:Nat} (h:¬ m < 10):Lib.decDigits m = Lib.decDigits (m / 10) ++ [UInt8.ofNat (48 + m % 10)]:=by
 rw [Lib.decDigits,dif_neg h]
theorem Zh (n:Nat):(n:Int).tdiv 10 = ((n / 10:Nat):Int):=by
 rw [Int.tdiv_eq_ediv_of_nonneg (Int.natCast_nonneg _)];omega
theorem Mb (m:Nat):(Utf8.encode (IntKind.i32.wrap (48 + (m:Int).tmod 10))).data.toList = [UInt8.ofNat (48 + m % 10)]:=by
 have h1:(m:Int).tmod 10 = ((m % 10:Nat):Int):=by rw [Int.tmod_eq_emod_of_nonneg (Int.natCast_nonneg _)];omega
 rw [h1]
 have h2:m % 10 < 10:=Nat.mod_lt _ (by decide)
 generalize m % 10 = d at *
 have key:∀ d,d < 10 → (Utf8.encode (IntKind.i32.wrap (48 + ((d:Nat):Int)))).data.toList = [UInt8.ofNat (48 + d)]:=by decide +kernel
 exact key d h2
def FD (N m:Nat) (t:List UInt8):Prop:=(if m = 0 then t else Lib.decDigits m ++ t) = Lib.decDigits N
theorem Yi (n:Nat):FD n (n / 10) [UInt8.ofNat (48 + n % 10)]:=by
 unfold FD
 by_cases h:n < 10
 ·rw [if_pos (by omega),Lib.decDigits_one h,show n % 10 = n by omega]
 ·rw [if_neg (by omega), ← Ma h]
theorem Ry {N m:Nat} {t:List UInt8} (h:FD N m t) (hm:0 < m):FD N (m / 10) ([UInt8.ofNat (48 + m % 10)] ++ t):=by
 unfold FD at h ⊢
 rw [if_neg (by omega)] at h
 by_cases h10:m < 10
 ·rw [if_pos (by omega), ← h,Lib.decDigits_one h10,show m % 10 = m by omega]
 ·rw [if_neg (by omega), ← h,Ma h10,List.append_assoc]
set_option maxHeartbeats 4000000 in
theorem Pn (n:Nat) (hn:n ≤ 1000000000):B4 Tryz.prog 44 [.i n] (.str (Lib.itoa n)):=by
 have hlen:=Lib.itoa_length_le n (by omega) (by omega)
 rw [Lib.itoa_nonneg] at hlen ⊢
 have hr:=Mb n
 refine F3 Tryz.func44 23 fun hrd E h0=>?_
 clear hrd
 repeat' ((first | (refine G9 ?_ ?_;(rw [Int.tmod_eq_emod_of_nonneg (Int.natCast_nonneg _)];omega)) | (refine G9 ?_ ?_;(rw [Int.tdiv_eq_ediv_of_nonneg (Int.natCast_nonneg _)];omega)) |refine A4 ?_|refine S1 ?_|refine Z1 ?_|refine Z2 ?_|(refine And.intro ?_ ?_<;>intro h<;>try first|(exfalso;omega)|exact absurd rfl h)|refine Z3 ?_|refine Z4 ?_|intro el hel hbB|intro el hel|intro ex|refine Z5 ?_|(refine A9 ?_ ?_;exact ⟨by kernel_rfl,by decide⟩)|refine A8 ?_ ?_|exact A7|refine A6 ?_ ?_|exact A5|(refine A0 ?_ ?_ ?_;kernel_rfl;kernel_rfl)) <;> (try (conv=>whnf)))
 refine C2 (ι:=Nat × List UInt8) (fun x=>⟨[(0, .i x.1),(3, .str x.2)],0,[]⟩) (fun x=>x.1 ≤ n ∧ FD n x.1 x.2) (fun x=>x.1) (n / 10,[UInt8.ofNat (48 + n % 10)]) ⟨Nat.div_le_self _ _,Yi n⟩
  (B0 h0 rfl ⟨congrArg (fun z=>some (AV.i z)) (Zh n),congrArg (fun z=>some (AV.str z)) hr,trivial⟩ trivial rfl rfl rfl) (fun x hI=>?_)
 obtain ⟨m,t⟩:=x
 obtain ⟨hm,hI⟩:=hI
 dsimp only at hm hI
 by_cases hpos:0 < m
 ·have hst:=Ry hI hpos
  have hrm:=Mb m
  have htl:t.length ≤ 21:=by
   unfold FD at hI
   rw [if_neg (by omega)] at hI
   rw [← hI,List.length_append] at hlen
   omega
  dsimp only
  rw [← hrm] at hst
  have hel:(Utf8.encode (IntKind.i32.wrap (48 + (m:Int).tmod 10))).data.toList.length = 1:=by rw [hrm];rfl
  repeat' ((first | (refine G9 ?_ ?_;(rw [Int.tmod_eq_emod_of_nonneg (Int.natCast_nonneg _)];omega)) | (refine G9 ?_ ?_;(rw [Int.tdiv_eq_ediv_of_nonneg (Int.natCast_nonneg _)];omega)) | (refine G9 ?_ ?_;(rw [hel];omega)) |refine A4 ?_|refine S1 ?_|refine Z1 ?_|refine Z2 ?_|(refine And.intro ?_ ?_<;>intro h<;>try first|(exfalso;omega)|exact absurd rfl h)|refine Z3 ?_|refine Z4 ?_|intro el hel hbB|intro el hel|intro ex|refine Z5 ?_|(refine A9 ?_ ?_;exact ⟨by kernel_rfl,by decide⟩)|refine A8 ?_ ?_|exact A7|refine A6 ?_ ?_|exact A5|(refine A0 ?_ ?_ ?_;kernel_rfl;kernel_rfl)) <;> (try (conv=>whnf)))
  all_goals first
   | (exfalso;omega)
   | exact ⟨(m / 10,_),⟨by dsimp only;omega,hst⟩,by dsimp only;omega,B0 h0 rfl ⟨congrArg (fun z=>some (AV.i z)) (Zh m),rfl,trivial⟩ trivial rfl rfl rfl⟩
 ·obtain rfl:m = 0:=by omega
  unfold FD at hI
  rw [if_pos rfl] at hI
  rw [← hI]
  dsimp only
  repeat' ((first|refine A4 ?_|refine S1 ?_|refine Z1 ?_|refine Z2 ?_|(refine And.intro ?_ ?_<;>intro h<;>try first|(exfalso;omega)|exact absurd rfl h)|refine Z3 ?_|refine Z4 ?_|intro el hel hbB|intro el hel|intro ex|refine Z5 ?_|(refine A9 ?_ ?_;exact ⟨by kernel_rfl,by decide⟩)|refine A8 ?_ ?_|exact A7|refine A6 ?_ ?_|exact A5|(refine A0 ?_ ?_ ?_;kernel_rfl;kernel_rfl)) <;> (try (conv=>whnf)))
  all_goals first
   | (exfalso;omega)
   | exact B5 rfl rfl
end Go.Proofs.YtiphlhoclaogjabGreatDoor
namespace Go.Proofs.YtiphlhoclaogjabGreatDoor
open Go Go.Av
attribute [local irreducible] D6 B8 D8 D7 DQ E0 E1 St.le B4 B9
set_option maxRecDepth 100000
def BB (g:List UInt8):Nat → Nat
 | 0=>0
 | k + 1=>if g[k]? = some 10 then k + 1 else BB g k
theorem OI (g:List UInt8):∀ k,BB g k ≤ k
 | 0=>Nat.le_refl _
 | k + 1=>by
   unfold BB
   split
   ·exact Nat.le_refl _
   ·exact Nat.le_trans (OI g k) (Nat.le_succ _)
def BC (g:List UInt8):List UInt8:=g.take (BB g (g.length - 1))
def JC (g:List UInt8):List UInt8:=BC g ++ C7 (r8 (BC g))
theorem Rz (p:List UInt8):[115,117,109,32] ++ p ++ [10] = C7 [L7,p]:=by simp [C7,Lib.join_cons,Lib.joinTail]
end Go.Proofs.YtiphlhoclaogjabGreatDoor
