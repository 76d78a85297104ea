/- Numbers of 128 bits: shifts. -/
import Derived.Test.YtbhegmcbpolemaaDoorTJr1
set_option linter.unusedVariables false
set_option linter.unnecessarySimpa false
set_option linter.unusedSimpArgs false
namespace Go.Proofs.YtbhegmcbpolemaaDoor
open Go Go.Av
attribute [local irreducible] E4 B6 F1 E7 DQ F6 F9 St.le B5 D4
set_option maxRecDepth 100000
theorem Pz {n:Nat} (h:n ≤ 64):2 ^ n * 2 ^ (64 - n) = 18446744073709551616:=by rw [← Nat.pow_add,show n + (64 - n) = 64 by omega]
theorem Nu {X n:Nat} (hn:n < 64):X * 2 ^ n / 18446744073709551616 % 18446744073709551616 = ((X / 18446744073709551616 * 2 ^ n) % 18446744073709551616) ||| (X % 18446744073709551616 / 2 ^ (64 - n)):=by
 have hpq:=Pz (n:=n) (by omega)
 have hp:0 < 2 ^ n:=Nat.pow_pos (by decide)
 have hq:0 < 2 ^ (64 - n):=Nat.pow_pos (by decide)
 have e0:X / 18446744073709551616 * 2 ^ n % 18446744073709551616 = (X / 18446744073709551616 % 2 ^ (64 - n)) * 2 ^ n:=by
  rw [← hpq,Nat.mul_comm (2 ^ n) (2 ^ (64 - n)),Nat.mul_mod_mul_right]
 have hL:X % 18446744073709551616 / 2 ^ (64 - n) < 2 ^ n:=by
  rw [Nat.div_lt_iff_lt_mul hq,hpq];exact Nat.mod_lt _ (by decide)
 rw [e0,HJ hL]
 have e1:X * 2 ^ n / 18446744073709551616 = X / 18446744073709551616 * 2 ^ n + X % 18446744073709551616 / 2 ^ (64 - n):=by
  have:X * 2 ^ n = 18446744073709551616 * (X / 18446744073709551616 * 2 ^ n) + X % 18446744073709551616 * 2 ^ n:=by
   have e:X = 18446744073709551616 * (X / 18446744073709551616) + X % 18446744073709551616:=by omega
   generalize X / 18446744073709551616 = H at *
   generalize X % 18446744073709551616 = L at *
   subst e;grind
  rw [this,Nat.mul_add_div (by decide)]
  congr 1
  rw [← hpq,Nat.mul_comm (2 ^ n) (2 ^ (64 - n)),Nat.mul_div_mul_right _ _ hp]
 rw [e1,Nat.add_mod,e0]
 have hr:=Nat.mod_lt (X / 18446744073709551616) hq
 generalize X / 18446744073709551616 % 2 ^ (64 - n) = r at *
 generalize X % 18446744073709551616 / 2 ^ (64 - n) = s at *
 generalize 2 ^ n = p at *
 generalize 2 ^ (64 - n) = q at *
 have h1:(r + 1) * p ≤ q * p:=Nat.mul_le_mul_right _ hr
 rw [Nat.add_mul,Nat.one_mul,Nat.mul_comm q] at h1
 have h2:p ≤ 18446744073709551616:=by rw [← hpq];exact Nat.le_mul_of_pos_right _ hq
 rw [Nat.mod_eq_of_lt (a:=s) (by omega),Nat.mod_eq_of_lt (by omega)]
theorem Qp {X n:Nat} (hn:n < 64):X / 2 ^ n % 18446744073709551616 = (X % 18446744073709551616 / 2 ^ n) ||| ((X / 18446744073709551616 * 2 ^ (64 - n)) % 18446744073709551616):=by
 have hpq:=Pz (n:=n) (by omega)
 have hp:0 < 2 ^ n:=Nat.pow_pos (by decide)
 have hq:0 < 2 ^ (64 - n):=Nat.pow_pos (by decide)
 have e0:X / 18446744073709551616 * 2 ^ (64 - n) % 18446744073709551616 = (X / 18446744073709551616 % 2 ^ n) * 2 ^ (64 - n):=by
  rw [← hpq,Nat.mul_mod_mul_right]
 have hL:X % 18446744073709551616 / 2 ^ n < 2 ^ (64 - n):=by
  rw [Nat.div_lt_iff_lt_mul hp,Nat.mul_comm,hpq];exact Nat.mod_lt _ (by decide)
 rw [e0,Og hL]
 have e1:X / 2 ^ n = X / 18446744073709551616 * 2 ^ (64 - n) + X % 18446744073709551616 / 2 ^ n:=by
  have:X = 2 ^ n * (X / 18446744073709551616 * 2 ^ (64 - n)) + X % 18446744073709551616:=by
   have e:X = 18446744073709551616 * (X / 18446744073709551616) + X % 18446744073709551616:=by omega
   have e2:2 ^ n * (X / 18446744073709551616 * 2 ^ (64 - n)) = (2 ^ n * 2 ^ (64 - n)) * (X / 18446744073709551616):=by
    generalize X / 18446744073709551616 = H
    grind
   rw [e2,hpq];omega
  have h3:X / 2 ^ n = (2 ^ n * (X / 18446744073709551616 * 2 ^ (64 - n)) + X % 18446744073709551616) / 2 ^ n:=congrArg (· / 2 ^ n) this
  rw [h3,Nat.mul_add_div hp]
 rw [e1,Nat.add_mod,e0]
 have hr:=Nat.mod_lt (X / 18446744073709551616) hp
 generalize X / 18446744073709551616 % 2 ^ n = r at *
 generalize X % 18446744073709551616 / 2 ^ n = s at *
 generalize 2 ^ n = p at *
 generalize 2 ^ (64 - n) = q at *
 have h1:(r + 1) * q ≤ p * q:=Nat.mul_le_mul_right _ hr
 rw [Nat.add_mul,Nat.one_mul] at h1
 have h2:q ≤ 18446744073709551616:=by rw [← hpq];exact Nat.le_mul_of_pos_left _ hp
 rw [Nat.mod_eq_of_lt (a:=s) (by omega),Nat.mod_eq_of_lt (by omega)]
theorem Jm (a b:Nat) (ha:a < 18446744073709551616) (hb:b < 18446744073709551616):IntKind.u64.wrap ((BitVec.ofInt IntKind.u64.bits (a:Int) ||| BitVec.ofInt IntKind.u64.bits (b:Int)).toNat:Int) = ((a ||| b:Nat):Int):=by
 have hx:a ||| b < 2 ^ 64:=Nat.or_lt_two_pow (by omega) (by omega)
 have h1:(BitVec.ofInt 64 (a:Int)).toNat = a:=by
  rw [BitVec.ofInt_natCast,BitVec.toNat_ofNat];exact Nat.mod_eq_of_lt (by omega)
 have h2:(BitVec.ofInt 64 (b:Int)).toNat = b:=by
  rw [BitVec.ofInt_natCast,BitVec.toNat_ofNat];exact Nat.mod_eq_of_lt (by omega)
 show IntKind.u64.wrap ((BitVec.ofInt 64 (a:Int) ||| BitVec.ofInt 64 (b:Int)).toNat:Int) = _
 rw [BitVec.toNat_or,h1,h2,IntKind.wrap_u64]
 omega
theorem CW (a n:Nat) (z:Int) (hz:z = n) (hn:n ≤ 64):IntKind.u64.wrap ((a:Int) * 2 ^ min z.toNat IntKind.u64.bits) = ((a * 2 ^ n % 18446744073709551616:Nat):Int):=by
 subst hz
 rw [show min ((n:Nat):Int).toNat IntKind.u64.bits = n by show min n 64 = n;omega,IntKind.wrap_u64]
 rw [show (2:Int) ^ n = ((2 ^ n:Nat):Int) by rw [Int.natCast_pow];rfl, ← Int.natCast_mul]
 omega
theorem AX (a n:Nat) (z:Int) (hz:z = n) (hn:n ≤ 64):(a:Int).fdiv (2 ^ min z.toNat IntKind.u64.bits) = ((a / 2 ^ n:Nat):Int):=by
 subst hz
 rw [show min ((n:Nat):Int).toNat IntKind.u64.bits = n by show min n 64 = n;omega]
 rw [show (2:Int) ^ n = ((2 ^ n:Nat):Int) by rw [Int.natCast_pow];rfl,Int.fdiv_eq_ediv_of_nonneg _ (Int.natCast_nonneg _),Int.natCast_ediv]
theorem c8 (X:Nat):C2 X = ((X / 18446744073709551616 % 18446744073709551616:Nat):Int):=by unfold C2;omega
theorem c9 (X:Nat):C1 X = ((X % 18446744073709551616:Nat):Int):=by unfold C1;omega
set_option maxHeartbeats 8000000 in
theorem Fg (X n:Nat) (hX:X < 340282366920938463463374607431768211456) (hn:n < 128):B5 Tryd.prog 77 [D6 X, .i n] (D6 ((X * 2 ^ n:Nat):Int)):=by
 unfold D6
 rw [c8,c9,c8 (X * 2 ^ n),c9 (X * 2 ^ n)]
 by_cases h64:n < 64
 ·rw [Nu h64, ← Jm _ _ (Nat.mod_lt _ (by decide)) (Nat.lt_of_le_of_lt (Nat.div_le_self _ _) (Nat.mod_lt _ (by decide)))]
  rw [← CW _ n n rfl (by omega), ← AX _ (64 - n) (64 - (n:Int)) (by omega) (by omega)]
  rw [show X * 2 ^ n % 18446744073709551616 = X % 18446744073709551616 * 2 ^ n % 18446744073709551616 by rw [Nat.mod_mul_mod], ← CW _ n n rfl (by omega)]
  rw [Nat.mod_eq_of_lt (a:=X / 18446744073709551616) (b:=18446744073709551616) (by omega)]
  refine D1 Tryd.func77 28 (fun hrd E h0=>?_) (hcells:=by intro t T h;cases h;exact ⟨2,inferInstance,fun l h=>by cases h;rfl⟩)
  clear hrd
  repeat' ((first | (refine F5 (id:=3) ⟨[(4, .ref 1 0)],2,[(1,some (.box [uA (IntKind.u64.wrap ((BitVec.ofInt IntKind.u64.bits (IntKind.u64.wrap (((X / 18446744073709551616:Nat):Int) * 2 ^ min ((n:Nat):Int).toNat IntKind.u64.bits)) ||| BitVec.ofInt IntKind.u64.bits (((X % 18446744073709551616:Nat):Int).fdiv (2 ^ min (64 - (n:Int)).toNat IntKind.u64.bits))).toNat:Int)),uA (IntKind.u64.wrap (((X % 18446744073709551616:Nat):Int) * 2 ^ min ((n:Nat):Int).toNat IntKind.u64.bits))]))]⟩ ?_ ?_) |refine A5 ?_|refine S1 ?_|refine Z1 ?_|refine Z2 ?_|(refine And.intro ?_ ?_<;>intro h<;>try first|(exfalso;omega)|exact absurd rfl h)|refine Z3 ?_|refine Z4 ?_|intro el hel hbB|intro el hel|intro ex|refine Z5 ?_|(refine B0 ?_ ?_;exact ⟨by kernel_rfl,by decide⟩)|refine A9 ?_ ?_|exact A8|refine A7 ?_ ?_|exact A6|(refine A3 ?_ ?_ ?_;kernel_rfl;kernel_rfl)) <;> (try (conv=>whnf)))
  all_goals first
   | (exfalso;omega)
   | exact B4 h0 rfl ⟨rfl,trivial⟩ ⟨rfl,trivial⟩ rfl rfl rfl
   | exact F4 rfl rfl rfl
 ·obtain ⟨m,rfl⟩:∃ m,n = m + 64:=⟨n - 64,by omega⟩
  have e1:X * 2 ^ (m + 64) = 18446744073709551616 * (X * 2 ^ m):=by rw [Nat.pow_add];grind
  rw [e1,Nat.mul_div_cancel_left _ (by decide),Nat.mul_mod_right,show X * 2 ^ m % 18446744073709551616 = X % 18446744073709551616 * 2 ^ m % 18446744073709551616 by rw [Nat.mod_mul_mod], ← CW _ m (((m + 64:Nat):Int) - 64) (by omega) (by omega)]
  refine D1 Tryd.func77 28 (fun hrd E h0=>?_) (hcells:=by intro t T h;cases h;exact ⟨2,inferInstance,fun l h=>by cases h;rfl⟩)
  clear hrd
  repeat' ((first|refine A5 ?_|refine S1 ?_|refine Z1 ?_|refine Z2 ?_|(refine And.intro ?_ ?_<;>intro h<;>try first|(exfalso;omega)|exact absurd rfl h)|refine Z3 ?_|refine Z4 ?_|intro el hel hbB|intro el hel|intro ex|refine Z5 ?_|(refine B0 ?_ ?_;exact ⟨by kernel_rfl,by decide⟩)|refine A9 ?_ ?_|exact A8|refine A7 ?_ ?_|exact A6|(refine A3 ?_ ?_ ?_;kernel_rfl;kernel_rfl)) <;> (try (conv=>whnf)))
  all_goals first
   | (exfalso;omega)
   | exact F4 rfl rfl rfl
set_option maxHeartbeats 8000000 in
theorem ES (X n:Nat) (hX:X < 340282366920938463463374607431768211456) (hn:n < 128):B5 Tryd.prog 76 [D6 X, .i n] (D6 ((X / 2 ^ n:Nat):Int)):=by
 unfold D6
 rw [c8,c9,c8 (X / 2 ^ n),c9 (X / 2 ^ n)]
 rw [Nat.mod_eq_of_lt (a:=X / 18446744073709551616) (b:=18446744073709551616) (by omega)]
 by_cases h64:n < 64
 ·rw [Qp h64, ← Jm _ _ (Nat.lt_of_le_of_lt (Nat.div_le_self _ _) (Nat.mod_lt _ (by decide))) (Nat.mod_lt _ (by decide))]
  rw [show X / 2 ^ n / 18446744073709551616 % 18446744073709551616 = X / 18446744073709551616 / 2 ^ n by
   rw [Nat.div_div_eq_div_mul,Nat.mul_comm, ← Nat.div_div_eq_div_mul]
   exact Nat.mod_eq_of_lt (Nat.lt_of_le_of_lt (Nat.div_le_self _ _) (by omega))]
  rw [← CW _ (64 - n) (64 - (n:Int)) (by omega) (by omega), ← AX (X / 18446744073709551616) n n rfl (by omega), ← AX (X % 18446744073709551616) n n rfl (by omega)]
  refine D1 Tryd.func76 28 (fun hrd E h0=>?_) (hcells:=by intro t T h;cases h;exact ⟨2,inferInstance,fun l h=>by cases h;rfl⟩)
  clear hrd
  repeat' ((first | (refine F5 (id:=3) ⟨[(4, .ref 1 0)],2,[(1,some (.box [uA (((X / 18446744073709551616:Nat):Int).fdiv (2 ^ min ((n:Nat):Int).toNat IntKind.u64.bits)),uA (IntKind.u64.wrap ((BitVec.ofInt IntKind.u64.bits (((X % 18446744073709551616:Nat):Int).fdiv (2 ^ min ((n:Nat):Int).toNat IntKind.u64.bits)) ||| BitVec.ofInt IntKind.u64.bits (IntKind.u64.wrap (((X / 18446744073709551616:Nat):Int) * 2 ^ min (64 - (n:Int)).toNat IntKind.u64.bits))).toNat:Int))]))]⟩ ?_ ?_) |refine A5 ?_|refine S1 ?_|refine Z1 ?_|refine Z2 ?_|(refine And.intro ?_ ?_<;>intro h<;>try first|(exfalso;omega)|exact absurd rfl h)|refine Z3 ?_|refine Z4 ?_|intro el hel hbB|intro el hel|intro ex|refine Z5 ?_|(refine B0 ?_ ?_;exact ⟨by kernel_rfl,by decide⟩)|refine A9 ?_ ?_|exact A8|refine A7 ?_ ?_|exact A6|(refine A3 ?_ ?_ ?_;kernel_rfl;kernel_rfl)) <;> (try (conv=>whnf)))
  all_goals first
   | (exfalso;omega)
   | exact B4 h0 rfl ⟨rfl,trivial⟩ ⟨rfl,trivial⟩ rfl rfl rfl
   | exact F4 rfl rfl rfl
 ·obtain ⟨m,rfl⟩:∃ m,n = m + 64:=⟨n - 64,by omega⟩
  have e1:X / 2 ^ (m + 64) = X / 18446744073709551616 / 2 ^ m:=by rw [Nat.pow_add,Nat.mul_comm, ← Nat.div_div_eq_div_mul]
  have hlt:X / 18446744073709551616 / 2 ^ m < 18446744073709551616:=Nat.lt_of_le_of_lt (Nat.div_le_self _ _) (by omega)
  rw [e1,Nat.div_eq_of_lt hlt,Nat.mod_eq_of_lt hlt,Nat.zero_mod, ← AX _ m (((m + 64:Nat):Int) - 64) (by omega) (by omega)]
  refine D1 Tryd.func76 28 (fun hrd E h0=>?_) (hcells:=by intro t T h;cases h;exact ⟨2,inferInstance,fun l h=>by cases h;rfl⟩)
  clear hrd
  repeat' ((first|refine A5 ?_|refine S1 ?_|refine Z1 ?_|refine Z2 ?_|(refine And.intro ?_ ?_<;>intro h<;>try first|(exfalso;omega)|exact absurd rfl h)|refine Z3 ?_|refine Z4 ?_|intro el hel hbB|intro el hel|intro ex|refine Z5 ?_|(refine B0 ?_ ?_;exact ⟨by kernel_rfl,by decide⟩)|refine A9 ?_ ?_|exact A8|refine A7 ?_ ?_|exact A6|(refine A3 ?_ ?_ ?_;kernel_rfl;kernel_rfl)) <;> (try (conv=>whnf)))
  all_goals first
   | (exfalso;omega)
   | exact F4 rfl rfl rfl
end Go.Proofs.YtbhegmcbpolemaaDoor
