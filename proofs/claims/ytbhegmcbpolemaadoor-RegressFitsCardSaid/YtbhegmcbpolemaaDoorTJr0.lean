/- Numbers of 128 bits: the library's functions, and the program's. -/
import Derived.Test.YtbhegmcbpolemaaDoorTJp3
import Derived.Laws.Externs
import Derived.Shelf.Spec.BitsCarry
import Derived.Lib.Mul64
import Derived.Laws.Bits64b
import Derived.Test.YtbhegmcbpolemaaDoorTE3
set_option linter.unusedVariables false
set_option linter.unnecessarySimpa false
set_option linter.unusedSimpArgs false
namespace Go.Proofs.YtbhegmcbpolemaaDoor
open Go Go.Av
attribute [local irreducible] E4 B6 F1 E7 DQ F6 F9 St.le B5 D4
set_option maxRecDepth 100000
abbrev uA (z:Int):AV:=.v (.int .u64 z)
abbrev D6 (x:Int):AV:=.agg [uA (C2 x),uA (C1 x)]
theorem HM (z:Int):IntKind.u64.wrap z = z % 18446744073709551616:=IntKind.wrap_u64 z
theorem Y4 (x y c:Int) (hx:0 ≤ x) (hy:0 ≤ y) (hc0:0 ≤ c) (hc:c ≤ 1):GD Tryd.prog 56 [uA x,uA y,uA c] (.tup [uA ((x + y + c) % 18446744073709551616),uA ((x + y + c) / 18446744073709551616)]) :=
 ⟨[.int .u64 x, .int .u64 y, .int .u64 c], .tuple #[.int .u64 ((x + y + c) % 18446744073709551616), .int .u64 ((x + y + c) / 18446744073709551616)],rfl,
  fun w=>by
   rw [run_callFunc_extern (fn:=Tryd.f56) (by kernel_rfl) (by kernel_rfl) (by kernel_rfl) (by kernel_rfl) (e:=add64Entry) (by kernel_rfl),run_add64 x y c hx hy hc0 hc]
   rfl,
  fun U w=>.tup _ [_,_] rfl fun j a v ha hv=>by
   match j,ha,hv with
   | 0,ha,hv=>cases ha;cases hv;exact .v _
   | 1,ha,hv=>cases ha;cases hv;exact .v _⟩
theorem EQ (x y c:Int) (hx:0 ≤ x) (hy:0 ≤ y ∧ y < 18446744073709551616) (hc:c = 0 ∨ c = 1):GD Tryd.prog 81 [uA x,uA y,uA c] (.tup [uA ((x + 18446744073709551616 - y - c) % 18446744073709551616),uA (if x < y + c then 1 else 0)]):=by
 obtain ⟨X,rfl⟩:=Int.eq_ofNat_of_zero_le hx
 obtain ⟨Y,rfl⟩:=Int.eq_ofNat_of_zero_le hy.1
 obtain ⟨C,rfl⟩:∃ C:Nat,c = C:=by rcases hc with rfl | rfl;exact ⟨0,rfl⟩;exact ⟨1,rfl⟩
 refine ⟨[.int .u64 X, .int .u64 Y, .int .u64 C], .tuple #[.int .u64 (((X + 18446744073709551616 - Y - C) % 18446744073709551616:Nat):Int), .int .u64 ((if X < Y + C then 1 else 0:Nat):Int)],rfl,
  fun w=>by
   rw [run_callFunc_extern (fn:=Tryd.f81) (by kernel_rfl) (by kernel_rfl) (by kernel_rfl) (by kernel_rfl) (e:=sub64Entry) (by kernel_rfl),run_sub64 X Y C (by omega)]
   rfl,
  fun U w=>.tup _ [_,_] rfl fun j a v ha hv=>?_⟩
 have e1:(((X + 18446744073709551616 - Y - C) % 18446744073709551616:Nat):Int) = ((X:Int) + 18446744073709551616 - Y - C) % 18446744073709551616:=by omega
 have e2:((if X < Y + C then 1 else 0:Nat):Int) = if (X:Int) < Y + C then 1 else 0:=by split <;> split <;> first | rfl | omega
 match j,ha,hv with
 | 0,ha,hv=>cases ha;cases hv;rw [e1];exact .v _
 | 1,ha,hv=>cases ha;cases hv;rw [e2];exact .v _
set_option maxHeartbeats 4000000 in
theorem CC (x y:Int):B5 Tryd.prog 35 [D6 x,D6 y] (D6 (x + y)):=by
 have b1:=M5 x;have b2:=L9 x;have b3:=M5 y;have b4:=L9 y
 have a1:=Y4 (C1 x) (C1 y) 0 b2.1 b4.1 (by omega) (by omega)
 have a2:=Y4 (C2 x) (C2 y) ((C1 x + C1 y + 0) / 18446744073709551616) b1.1 b3.1 (by omega) (by omega)
 have e1:=Fa x y
 have e2:=Fb x y
 unfold D6
 rw [← e1, ← e2]
 generalize C2 x = p at *
 generalize C1 x = q at *
 generalize C2 y = r at *
 generalize C1 y = s at *
 refine D1 Tryd.func35 29 (fun hrd E h0=>?_) (hcells:=by intro t T h;cases h;exact ⟨2,inferInstance,fun l h=>by cases h;rfl⟩)
 clear hrd
 repeat' ((first | refine a8 a1 ?_ | refine a8 a2 ?_ |refine A5 ?_|refine S1 ?_|refine Z1 ?_|refine Z2 ?_|(refine And.intro ?_ ?_<;>intro h<;>try first|(exfalso;omega)|exact absurd rfl h)|refine Z3 ?_|refine Z4 ?_|intro el hel hbB|intro el hel|intro ex|refine Z5 ?_|(refine B0 ?_ ?_;exact ⟨by kernel_rfl,by decide⟩)|refine A9 ?_ ?_|exact A8|refine A7 ?_ ?_|exact A6|(refine A3 ?_ ?_ ?_;kernel_rfl;kernel_rfl)) <;> (try (conv=>whnf)))
 all_goals first
  | exact F4 rfl rfl (by rw [Int.add_zero];rfl)
set_option maxHeartbeats 4000000 in
theorem S3 (x:Int):B5 Tryd.prog 58 [D6 x] (D6 (-x)):=by
 have b1:=M5 x;have b2:=L9 x
 have h1:=CC (-x - 1) 1
 rw [show -x - 1 + 1 = -x by omega] at h1
 unfold D6 at *
 rw [← Mm, ← Ml,show C2 1 = 0 by decide,show C1 1 = 1 by decide] at h1
 generalize C2 x = p at *
 generalize C1 x = q at *
 refine D1 Tryd.func58 12 (fun hrd E h0=>?_) (hcells:=by intro t T h;cases h;exact ⟨2,inferInstance,fun l h=>by cases h;rfl⟩)
 clear hrd
 repeat' ((first | refine A4 h1 ?_ |refine A5 ?_|refine S1 ?_|refine Z1 ?_|refine Z2 ?_|(refine And.intro ?_ ?_<;>intro h<;>try first|(exfalso;omega)|exact absurd rfl h)|refine Z3 ?_|refine Z4 ?_|intro el hel hbB|intro el hel|intro ex|refine Z5 ?_|(refine B0 ?_ ?_;exact ⟨by kernel_rfl,by decide⟩)|refine A9 ?_ ?_|exact A8|refine A7 ?_ ?_|exact A6|(refine A3 ?_ ?_ ?_;kernel_rfl;kernel_rfl)) <;> (try (conv=>whnf)))
 all_goals first
  | (exfalso;omega)
  | exact F4 rfl rfl rfl
set_option maxHeartbeats 4000000 in
theorem BB (x y:Int):B5 Tryd.prog 42 [D6 x,D6 y] (D6 (x - y)):=by
 have h1:=S3 y
 have h2:=CC x (-y)
 rw [show x + -y = x - y by omega] at h2
 refine D1 Tryd.func42 9 (fun hrd E h0=>?_) (hcells:=by intro t T h;cases h;exact ⟨2,inferInstance,fun l h=>by cases h;rfl⟩)
 clear hrd
 repeat' ((first | refine A4 h1 ?_ | refine A4 h2 ?_ | (refine F5 (id:=1) ⟨[(4, .ref 2 0)],3,[(2,some (.box [uA (C2 (x - y)),uA (C1 (x - y))]))]⟩ ?_ ?_) |refine A5 ?_|refine S1 ?_|refine Z1 ?_|refine Z2 ?_|(refine And.intro ?_ ?_<;>intro h<;>try first|(exfalso;omega)|exact absurd rfl h)|refine Z3 ?_|refine Z4 ?_|intro el hel hbB|intro el hel|intro ex|refine Z5 ?_|(refine B0 ?_ ?_;exact ⟨by kernel_rfl,by decide⟩)|refine A9 ?_ ?_|exact A8|refine A7 ?_ ?_|exact A6|(refine A3 ?_ ?_ ?_;kernel_rfl;kernel_rfl)) <;> (try (conv=>whnf)))
 all_goals first
  | exact B4 h0 rfl ⟨rfl,trivial⟩ ⟨rfl,trivial⟩ rfl rfl rfl
  | exact F4 rfl rfl rfl
set_option maxHeartbeats 4000000 in
theorem Y5 (n:Int) (h0:-9223372036854775808 ≤ n) (h1:n ≤ 9223372036854775807):B5 Tryd.prog 38 [.i n] (D6 n):=by
 have e1:IntKind.u64.wrap (n.fdiv (2 ^ 63)) = C2 n:=by
  rw [HM,Int.fdiv_eq_ediv_of_nonneg _ (by decide)]
  unfold C2
  omega
 have e2:IntKind.u64.wrap n = C1 n:=HM n
 unfold D6
 rw [← e1, ← e2]
 refine D1 Tryd.func38 9 (fun hrd E h0=>?_) (hcells:=by intro t T h;cases h;exact ⟨2,inferInstance,fun l h=>by cases h;rfl⟩)
 clear hrd
 repeat' ((first|refine A5 ?_|refine S1 ?_|refine Z1 ?_|refine Z2 ?_|(refine And.intro ?_ ?_<;>intro h<;>try first|(exfalso;omega)|exact absurd rfl h)|refine Z3 ?_|refine Z4 ?_|intro el hel hbB|intro el hel|intro ex|refine Z5 ?_|(refine B0 ?_ ?_;exact ⟨by kernel_rfl,by decide⟩)|refine A9 ?_ ?_|exact A8|refine A7 ?_ ?_|exact A6|(refine A3 ?_ ?_ ?_;kernel_rfl;kernel_rfl)) <;> (try (conv=>whnf)))
 all_goals first
  | exact F4 rfl rfl rfl
theorem Jk (a:Nat) (ha:a < 18446744073709551616):IntKind.u64.wrap ((BitVec.ofInt IntKind.u64.bits (a:Int) &&& BitVec.ofInt IntKind.u64.bits 4294967295).toNat:Int) = ((a % 4294967296:Nat):Int):=by
 have h:=bits_and_u64_nat a 4294967295 ha (by omega)
 have e:a &&& 4294967295 = a % 4294967296:=Nat.and_two_pow_sub_one_eq_mod a 32
 rw [e] at h
 exact h
theorem Ql (a:Nat):(a:Int).fdiv (2 ^ min (Int.toNat 32) IntKind.u64.bits) = ((a / 4294967296:Nat):Int):=by
 show (a:Int).fdiv (2 ^ 32) = _
 rw [Int.fdiv_eq_ediv_of_nonneg _ (by decide)];omega
theorem Qm (a b:Nat):(a:Int) * (b:Int) = ((a * b:Nat):Int):=(Int.natCast_mul a b).symm
theorem Qn (a b:Nat):(a:Int) + (b:Int) = ((a + b:Nat):Int):=(Int.natCast_add a b).symm
theorem BC (a:Nat) (ha:a < 18446744073709551616):IntKind.u64.wrap (a:Int) = (a:Int):=by rw [IntKind.wrap_u64];omega
theorem RO (a:Nat):IntKind.u64.wrap (a:Int) = ((a % 18446744073709551616:Nat):Int):=by rw [IntKind.wrap_u64];omega
set_option maxHeartbeats 16000000 in
theorem o8 (x y:Int) (hx:0 ≤ x ∧ x < 18446744073709551616) (hy:0 ≤ y ∧ y < 18446744073709551616):B5 Tryd.prog 62 [uA x,uA y] (.tup [uA (x * y / 18446744073709551616),uA (x * y % 18446744073709551616)]):=by
 obtain ⟨X,rfl⟩:=Int.eq_ofNat_of_zero_le hx.1
 obtain ⟨Y,rfl⟩:=Int.eq_ofNat_of_zero_le hy.1
 obtain ⟨bd,bt,bw,hhi⟩:=Lib.mul64_hi X Y (by omega) (by omega)
 have ba:=Lib.half_mul_le (a:=X / 4294967296) (b:=Y / 4294967296) (by omega) (by omega)
 have bb:=Lib.half_mul_le (a:=X / 4294967296) (b:=Y % 4294967296) (by omega) (by omega)
 have bc:=Lib.half_mul_le (a:=X % 4294967296) (b:=Y / 4294967296) (by omega) (by omega)
 have ba':X / 4294967296 * (Y / 4294967296) < 18446744073709551616:=by omega
 have bb':X / 4294967296 * (Y % 4294967296) < 18446744073709551616:=by omega
 have bc':X % 4294967296 * (Y / 4294967296) < 18446744073709551616:=by omega
 have bh1:X / 4294967296 * (Y / 4294967296) + (X / 4294967296 * (Y % 4294967296) + X % 4294967296 * (Y % 4294967296) / 4294967296) / 4294967296 < 18446744073709551616:=by omega
 have bh:X / 4294967296 * (Y / 4294967296) + (X / 4294967296 * (Y % 4294967296) + X % 4294967296 * (Y % 4294967296) / 4294967296) / 4294967296 + ((X / 4294967296 * (Y % 4294967296) + X % 4294967296 * (Y % 4294967296) / 4294967296) % 4294967296 + X % 4294967296 * (Y / 4294967296)) / 4294967296 < 18446744073709551616:=by omega
 refine D1 Tryd.func62 51 fun hrd E h0=>?_
 clear hrd
 repeat' ((first|refine A5 ?_|refine S1 ?_|refine Z1 ?_|refine Z2 ?_|(refine And.intro ?_ ?_<;>intro h<;>try first|(exfalso;omega)|exact absurd rfl h)|refine Z3 ?_|refine Z4 ?_|intro el hel hbB|intro el hel|intro ex|refine Z5 ?_|(refine B0 ?_ ?_;exact ⟨by kernel_rfl,by decide⟩)|refine A9 ?_ ?_|exact A8|refine A7 ?_ ?_|exact A6|(refine A3 ?_ ?_ ?_;kernel_rfl;kernel_rfl)) <;> (try (conv=>whnf)))
 all_goals refine s8 (a:=uA _) (b:=uA _) rfl rfl ?_
 simp only [Jk X (by omega),Jk Y (by omega),Ql,Qm,Qn,BC _ bd,BC _ bb',BC _ bt,Jk _ bt,BC _ bc',BC _ bw,BC _ ba',BC _ bh1,BC _ bh,RO (X * Y)]
 rw [hhi]
 have e1:((X * Y / 18446744073709551616:Nat):Int) = ((X * Y:Nat):Int) / 18446744073709551616:=by omega
 have e2:((X * Y % 18446744073709551616:Nat):Int) = ((X * Y:Nat):Int) % 18446744073709551616:=by omega
 rw [e1,e2]
end Go.Proofs.YtbhegmcbpolemaaDoor
