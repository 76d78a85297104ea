/- Numbers of 128 bits: the library's functions, and the program's. -/
import Derived.Test.YtbhegmcbpolemaaDoorSJp3
import Derived.Laws.Externs
import Derived.Shelf.Spec.BitsCarry
import Derived.Lib.Mul64
import Derived.Laws.Bits64b
import Derived.Test.YtbhegmcbpolemaaDoorSE3
set_option linter.unusedVariables false
set_option linter.unnecessarySimpa false
set_option linter.unusedSimpArgs false
namespace Go.Proofs.YtbhegmcbpolemaaDoor
open Go Go.Av
attribute [local irreducible] E3 B5 F2 F0 DQ F5 G8 St.le B6 D3
set_option maxRecDepth 100000
abbrev uA (z:Int):AV:=.v (.int .u64 z)
abbrev H9 (x:Int):AV:=.agg [uA (E7 x),uA (E2 x)]
theorem La (z:Int):IntKind.u64.wrap z = z % 18446744073709551616:=IntKind.wrap_u64 z
theorem BS (x y c:Int) (hx:0 ≤ x) (hy:0 ≤ y) (hc0:0 ≤ c) (hc:c ≤ 1):JU Tryd.prog 56 [uA x,uA y,uA c] (.tup [uA ((x + y + c) % 18446744073709551616),uA ((x + y + c) / 18446744073709551616)]) :=
 ⟨[.int .u64 x, .int .u64 y, .int .u64 c], .tuple #[.int .u64 ((x + y + c) % 18446744073709551616), .int .u64 ((x + y + c) / 18446744073709551616)],rfl,
  fun w=>by
   rw [run_callFunc_extern (fn:=Tryd.f56) (by kernel_rfl) (by kernel_rfl) (by kernel_rfl) (by kernel_rfl) (e:=add64Entry) (by kernel_rfl),run_add64 x y c hx hy hc0 hc]
   rfl,
  fun U w=>.tup _ [_,_] rfl fun j a v ha hv=>by
   match j,ha,hv with
   | 0,ha,hv=>cases ha;cases hv;exact .v _
   | 1,ha,hv=>cases ha;cases hv;exact .v _⟩
set_option maxHeartbeats 4000000 in
theorem AK (x y:Int):B6 Tryd.prog 35 [H9 x,H9 y] (H9 (x + y)):=by
 have b1:=Y6 x;have b2:=W1 x;have b3:=Y6 y;have b4:=W1 y
 have a1:=BS (E2 x) (E2 y) 0 b2.1 b4.1 (by omega) (by omega)
 have a2:=BS (E7 x) (E7 y) ((E2 x + E2 y + 0) / 18446744073709551616) b1.1 b3.1 (by omega) (by omega)
 have e1:=LS x y
 have e2:=LU x y
 unfold H9
 rw [← e1, ← e2]
 generalize E7 x = p at *
 generalize E2 x = q at *
 generalize E7 y = r at *
 generalize E2 y = s at *
 refine E1 Tryd.func35 29 (fun hrd E h0=>?_) (hcells:=by intro t T h;cases h;exact ⟨2,inferInstance,fun l h=>by cases h;rfl⟩)
 clear hrd
 repeat' ((first | refine Ew a1 ?_ | refine Ew a2 ?_ |refine A6 ?_|refine S1 ?_|refine Z1 ?_|refine Z2 ?_|(refine And.intro ?_ ?_<;>intro h<;>try first|(exfalso;omega)|exact absurd rfl h)|refine Z3 ?_|refine Z4 ?_|intro el hel hbB|intro el hel|intro ex|refine Z5 ?_|(refine B2 ?_ ?_;exact ⟨by kernel_rfl,by decide⟩)|refine B0 ?_ ?_|exact A9|refine A8 ?_ ?_|exact A7|(refine A3 ?_ ?_ ?_;kernel_rfl;kernel_rfl)) <;> (try (conv=>whnf)))
 all_goals first
  | exact K5 rfl rfl (by rw [Int.add_zero];rfl)
set_option maxHeartbeats 4000000 in
theorem R7 (x:Int):B6 Tryd.prog 58 [H9 x] (H9 (-x)):=by
 have b1:=Y6 x;have b2:=W1 x
 have h1:=AK (-x - 1) 1
 rw [show -x - 1 + 1 = -x by omega] at h1
 unfold H9 at *
 rw [← NM, ← NK,show E7 1 = 0 by decide,show E2 1 = 1 by decide] at h1
 generalize E7 x = p at *
 generalize E2 x = q at *
 refine E1 Tryd.func58 12 (fun hrd E h0=>?_) (hcells:=by intro t T h;cases h;exact ⟨2,inferInstance,fun l h=>by cases h;rfl⟩)
 clear hrd
 repeat' ((first | refine A4 h1 ?_ |refine A6 ?_|refine S1 ?_|refine Z1 ?_|refine Z2 ?_|(refine And.intro ?_ ?_<;>intro h<;>try first|(exfalso;omega)|exact absurd rfl h)|refine Z3 ?_|refine Z4 ?_|intro el hel hbB|intro el hel|intro ex|refine Z5 ?_|(refine B2 ?_ ?_;exact ⟨by kernel_rfl,by decide⟩)|refine B0 ?_ ?_|exact A9|refine A8 ?_ ?_|exact A7|(refine A3 ?_ ?_ ?_;kernel_rfl;kernel_rfl)) <;> (try (conv=>whnf)))
 all_goals first
  | (exfalso;omega)
  | exact K5 rfl rfl rfl
set_option maxHeartbeats 4000000 in
theorem Y7 (x y:Int):B6 Tryd.prog 42 [H9 x,H9 y] (H9 (x - y)):=by
 have h1:=R7 y
 have h2:=AK x (-y)
 rw [show x + -y = x - y by omega] at h2
 refine E1 Tryd.func42 9 (fun hrd E h0=>?_) (hcells:=by intro t T h;cases h;exact ⟨2,inferInstance,fun l h=>by cases h;rfl⟩)
 clear hrd
 repeat' ((first | refine A4 h1 ?_ | refine A4 h2 ?_ | (refine F6 (id:=1) ⟨[(4, .ref 2 0)],3,[(2,some (.box [uA (E7 (x - y)),uA (E2 (x - y))]))]⟩ ?_ ?_) |refine A6 ?_|refine S1 ?_|refine Z1 ?_|refine Z2 ?_|(refine And.intro ?_ ?_<;>intro h<;>try first|(exfalso;omega)|exact absurd rfl h)|refine Z3 ?_|refine Z4 ?_|intro el hel hbB|intro el hel|intro ex|refine Z5 ?_|(refine B2 ?_ ?_;exact ⟨by kernel_rfl,by decide⟩)|refine B0 ?_ ?_|exact A9|refine A8 ?_ ?_|exact A7|(refine A3 ?_ ?_ ?_;kernel_rfl;kernel_rfl)) <;> (try (conv=>whnf)))
 all_goals first
  | exact B3 h0 rfl ⟨rfl,trivial⟩ ⟨rfl,trivial⟩ rfl rfl rfl
  | exact K5 rfl rfl rfl
set_option maxHeartbeats 4000000 in
theorem H8 (n:Int) (h0:-9223372036854775808 ≤ n) (h1:n ≤ 9223372036854775807):B6 Tryd.prog 38 [.i n] (H9 n):=by
 have e1:IntKind.u64.wrap (n.fdiv (2 ^ 63)) = E7 n:=by
  rw [La,Int.fdiv_eq_ediv_of_nonneg _ (by decide)]
  unfold E7
  omega
 have e2:IntKind.u64.wrap n = E2 n:=La n
 unfold H9
 rw [← e1, ← e2]
 refine E1 Tryd.func38 9 (fun hrd E h0=>?_) (hcells:=by intro t T h;cases h;exact ⟨2,inferInstance,fun l h=>by cases h;rfl⟩)
 clear hrd
 repeat' ((first|refine A6 ?_|refine S1 ?_|refine Z1 ?_|refine Z2 ?_|(refine And.intro ?_ ?_<;>intro h<;>try first|(exfalso;omega)|exact absurd rfl h)|refine Z3 ?_|refine Z4 ?_|intro el hel hbB|intro el hel|intro ex|refine Z5 ?_|(refine B2 ?_ ?_;exact ⟨by kernel_rfl,by decide⟩)|refine B0 ?_ ?_|exact A9|refine A8 ?_ ?_|exact A7|(refine A3 ?_ ?_ ?_;kernel_rfl;kernel_rfl)) <;> (try (conv=>whnf)))
 all_goals first
  | exact K5 rfl rfl rfl
theorem KA (a:Nat) (ha:a < 18446744073709551616):IntKind.u64.wrap ((BitVec.ofInt IntKind.u64.bits (a:Int) &&& BitVec.ofInt IntKind.u64.bits 4294967295).toNat:Int) = ((a % 4294967296:Nat):Int):=by
 have h:=bits_and_u64_nat a 4294967295 ha (by omega)
 have e:a &&& 4294967295 = a % 4294967296:=Nat.and_two_pow_sub_one_eq_mod a 32
 rw [e] at h
 exact h
theorem RN (a:Nat):(a:Int).fdiv (2 ^ min (Int.toNat 32) IntKind.u64.bits) = ((a / 4294967296:Nat):Int):=by
 show (a:Int).fdiv (2 ^ 32) = _
 rw [Int.fdiv_eq_ediv_of_nonneg _ (by decide)];omega
theorem RO (a b:Nat):(a:Int) * (b:Int) = ((a * b:Nat):Int):=(Int.natCast_mul a b).symm
theorem RP (a b:Nat):(a:Int) + (b:Int) = ((a + b:Nat):Int):=(Int.natCast_add a b).symm
theorem CO (a:Nat) (ha:a < 18446744073709551616):IntKind.u64.wrap (a:Int) = (a:Int):=by rw [IntKind.wrap_u64];omega
theorem Rn (a:Nat):IntKind.u64.wrap (a:Int) = ((a % 18446744073709551616:Nat):Int):=by rw [IntKind.wrap_u64];omega
set_option maxHeartbeats 16000000 in
theorem BT (x y:Int) (hx:0 ≤ x ∧ x < 18446744073709551616) (hy:0 ≤ y ∧ y < 18446744073709551616):B6 Tryd.prog 62 [uA x,uA y] (.tup [uA (x * y / 18446744073709551616),uA (x * y % 18446744073709551616)]):=by
 obtain ⟨X,rfl⟩:=Int.eq_ofNat_of_zero_le hx.1
 obtain ⟨Y,rfl⟩:=Int.eq_ofNat_of_zero_le hy.1
 obtain ⟨bd,bt,bw,hhi⟩:=Lib.mul64_hi X Y (by omega) (by omega)
 have ba:=Lib.half_mul_le (a:=X / 4294967296) (b:=Y / 4294967296) (by omega) (by omega)
 have bb:=Lib.half_mul_le (a:=X / 4294967296) (b:=Y % 4294967296) (by omega) (by omega)
 have bc:=Lib.half_mul_le (a:=X % 4294967296) (b:=Y / 4294967296) (by omega) (by omega)
 have ba':X / 4294967296 * (Y / 4294967296) < 18446744073709551616:=by omega
 have bb':X / 4294967296 * (Y % 4294967296) < 18446744073709551616:=by omega
 have bc':X % 4294967296 * (Y / 4294967296) < 18446744073709551616:=by omega
 have bh1:X / 4294967296 * (Y / 4294967296) + (X / 4294967296 * (Y % 4294967296) + X % 4294967296 * (Y % 4294967296) / 4294967296) / 4294967296 < 18446744073709551616:=by omega
 have bh:X / 4294967296 * (Y / 4294967296) + (X / 4294967296 * (Y % 4294967296) + X % 4294967296 * (Y % 4294967296) / 4294967296) / 4294967296 + ((X / 4294967296 * (Y % 4294967296) + X % 4294967296 * (Y % 4294967296) / 4294967296) % 4294967296 + X % 4294967296 * (Y / 4294967296)) / 4294967296 < 18446744073709551616:=by omega
 refine E1 Tryd.func62 51 fun hrd E h0=>?_
 clear hrd
 repeat' ((first|refine A6 ?_|refine S1 ?_|refine Z1 ?_|refine Z2 ?_|(refine And.intro ?_ ?_<;>intro h<;>try first|(exfalso;omega)|exact absurd rfl h)|refine Z3 ?_|refine Z4 ?_|intro el hel hbB|intro el hel|intro ex|refine Z5 ?_|(refine B2 ?_ ?_;exact ⟨by kernel_rfl,by decide⟩)|refine B0 ?_ ?_|exact A9|refine A8 ?_ ?_|exact A7|(refine A3 ?_ ?_ ?_;kernel_rfl;kernel_rfl)) <;> (try (conv=>whnf)))
 all_goals refine BI (a:=uA _) (b:=uA _) rfl rfl ?_
 simp only [KA X (by omega),KA Y (by omega),RN,RO,RP,CO _ bd,CO _ bb',CO _ bt,KA _ bt,CO _ bc',CO _ bw,CO _ ba',CO _ bh1,CO _ bh,Rn (X * Y)]
 rw [hhi]
 have e1:((X * Y / 18446744073709551616:Nat):Int) = ((X * Y:Nat):Int) / 18446744073709551616:=by omega
 have e2:((X * Y % 18446744073709551616:Nat):Int) = ((X * Y:Nat):Int) % 18446744073709551616:=by omega
 rw [e1,e2]
end Go.Proofs.YtbhegmcbpolemaaDoor
