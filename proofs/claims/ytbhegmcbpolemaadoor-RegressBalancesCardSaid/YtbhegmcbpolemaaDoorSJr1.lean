/- Numbers of 128 bits: products, signs, sizes, bits. -/
import Derived.Test.YtbhegmcbpolemaaDoorSJr0
set_option linter.unusedVariables false
set_option linter.unnecessarySimpa false
set_option linter.unusedSimpArgs false
namespace Go.Proofs.YtbhegmcbpolemaaDoor
open Go Go.Av
attribute [local irreducible] E3 B5 F2 F0 DQ F5 G8 St.le B6 D3
set_option maxRecDepth 100000
set_option maxHeartbeats 4000000 in
theorem V2 (x y:Int):B6 Tryd.prog 39 [H9 x,H9 y] (H9 (x * y)):=by
 have b1:=Y6 x;have b2:=W1 x;have b3:=Y6 y;have b4:=W1 y
 have h1:=BT (E2 x) (E2 y) b2 b4
 have e1:=Jw x y
 have e2:=Jx x y
 unfold H9
 rw [← e1, ← e2]
 generalize E7 x = p at *
 generalize E2 x = q at *
 generalize E7 y = r at *
 generalize E2 y = s at *
 refine E1 Tryd.func39 30 (fun hrd E h0=>?_) (hcells:=by intro t T h;cases h;exact ⟨2,inferInstance,fun l h=>by cases h;rfl⟩)
 clear hrd
 repeat' ((first | refine A4 h1 ?_ |refine A6 ?_|refine S1 ?_|refine Z1 ?_|refine Z2 ?_|(refine And.intro ?_ ?_<;>intro h<;>try first|(exfalso;omega)|exact absurd rfl h)|refine Z3 ?_|refine Z4 ?_|intro el hel hbB|intro el hel|intro ex|refine Z5 ?_|(refine B2 ?_ ?_;exact ⟨by kernel_rfl,by decide⟩)|refine B0 ?_ ?_|exact A9|refine A8 ?_ ?_|exact A7|(refine A3 ?_ ?_ ?_;kernel_rfl;kernel_rfl)) <;> (try (conv=>whnf)))
 all_goals first
  | (refine K5 rfl rfl ?_;simp only [La];exact congrArg (fun z=>AV.agg [uA z,uA (q * s % 18446744073709551616)]) (by omega))
set_option maxHeartbeats 4000000 in
theorem R0 (x:Int) (h:-170141183460469231731687303715884105728 ≤ x ∧ x < 170141183460469231731687303715884105728):B6 Tryd.prog 43 [H9 x] (.i x.sign):=by
 have b1:=Y6 x;have b2:=W1 x
 obtain ⟨h1,h2⟩:=LV h
 have e3:(E7 x).fdiv (2 ^ 63) = E7 x / 9223372036854775808:=by rw [Int.fdiv_eq_ediv_of_nonneg _ (by decide)];rfl
 have e:∀ z:Int,(E7 x / 9223372036854775808 = 1 → z = -1) → (E7 x / 9223372036854775808 ≠ 1 → E7 x = 0 ∧ E2 x = 0 → z = 0) → (E7 x / 9223372036854775808 ≠ 1 → ¬ (E7 x = 0 ∧ E2 x = 0) → z = 1) → z = x.sign:=fun z z1 z2 z3=>by
  rcases Int.lt_trichotomy x 0 with hx | hx | hx
  ·rw [z1 (h1.2 hx),Int.sign_eq_neg_one_of_neg hx]
  ·rw [z2 (fun h=>by have:=h1.1 h;omega) (h2.2 hx),hx];rfl
  ·rw [z3 (fun h=>by have:=h1.1 h;omega) (fun h=>by have:=h2.1 h;omega),Int.sign_eq_one_of_pos hx]
 unfold H9
 rw [← e3] at e
 generalize x.sign = s at *
 generalize E7 x = p at *
 generalize E2 x = q at *
 clear h1 h2 h
 refine E1 Tryd.func43 12 fun hrd E h0=>?_
 clear hrd
 repeat' ((first|refine A6 ?_|refine S1 ?_|refine Z1 ?_|refine Z2 ?_|(refine And.intro ?_ ?_<;>intro h<;>try first|(exfalso;omega)|exact absurd rfl h)|refine Z3 ?_|refine Z4 ?_|intro el hel hbB|intro el hel|intro ex|refine Z5 ?_|(refine B2 ?_ ?_;exact ⟨by kernel_rfl,by decide⟩)|refine B0 ?_ ?_|exact A9|refine A8 ?_ ?_|exact A7|(refine A3 ?_ ?_ ?_;kernel_rfl;kernel_rfl)) <;> (try (conv=>whnf)))
 all_goals first
  | exact C1 rfl (congrArg AV.i (e _ (fun _=>rfl) (fun h _=>absurd (by assumption) h) fun h _=>absurd (by assumption) h))
  | exact C1 rfl (congrArg AV.i (e _ (fun h=>absurd h (by assumption)) (fun _ _=>rfl) fun _ h=>absurd (by assumption) h))
  | exact C1 rfl (congrArg AV.i (e _ (fun h=>absurd h (by assumption)) (fun _ h=>absurd h (by assumption)) fun _ _=>rfl))
set_option maxHeartbeats 4000000 in
theorem Lb (x:Int) (h:-170141183460469231731687303715884105728 ≤ x ∧ x < 170141183460469231731687303715884105728):B6 Tryd.prog 60 [H9 x] (H9 x.natAbs):=by
 have h1:=R0 x h
 have h2:=R7 x
 rcases Int.lt_or_le x 0 with hx | hx
 ·rw [show ((x.natAbs:Nat):Int) = -x by omega]
  rw [Int.sign_eq_neg_one_of_neg hx] at h1
  refine E1 Tryd.func60 9 (fun hrd E h0=>?_) (hcells:=by intro t T h;cases h;exact ⟨2,inferInstance,fun l h=>by cases h;rfl⟩)
  clear hrd
  repeat' ((first | refine A4 h1 ?_ | refine A4 h2 ?_ |refine A6 ?_|refine S1 ?_|refine Z1 ?_|refine Z2 ?_|(refine And.intro ?_ ?_<;>intro h<;>try first|(exfalso;omega)|exact absurd rfl h)|refine Z3 ?_|refine Z4 ?_|intro el hel hbB|intro el hel|intro ex|refine Z5 ?_|(refine B2 ?_ ?_;exact ⟨by kernel_rfl,by decide⟩)|refine B0 ?_ ?_|exact A9|refine A8 ?_ ?_|exact A7|(refine A3 ?_ ?_ ?_;kernel_rfl;kernel_rfl)) <;> (try (conv=>whnf)))
  all_goals first
   | (exfalso;omega)
   | exact K5 rfl rfl rfl
 ·rw [show ((x.natAbs:Nat):Int) = x by omega]
  have:0 ≤ x.sign:=by
   rcases Int.lt_or_eq_of_le hx with h3 | h3
   ·rw [Int.sign_eq_one_of_pos h3];decide
   ·rw [← h3];decide
  generalize x.sign = s at *
  refine E1 Tryd.func60 9 (fun hrd E h0=>?_) (hcells:=by intro t T h;cases h;exact ⟨2,inferInstance,fun l h=>by cases h;rfl⟩)
  clear hrd
  repeat' ((first | refine A4 h1 ?_ |refine A6 ?_|refine S1 ?_|refine Z1 ?_|refine Z2 ?_|(refine And.intro ?_ ?_<;>intro h<;>try first|(exfalso;omega)|exact absurd rfl h)|refine Z3 ?_|refine Z4 ?_|intro el hel hbB|intro el hel|intro ex|refine Z5 ?_|(refine B2 ?_ ?_;exact ⟨by kernel_rfl,by decide⟩)|refine B0 ?_ ?_|exact A9|refine A8 ?_ ?_|exact A7|(refine A3 ?_ ?_ ?_;kernel_rfl;kernel_rfl)) <;> (try (conv=>whnf)))
  all_goals first
   | (exfalso;omega)
   | exact K5 rfl rfl rfl
def GX:List UInt8:=(List.range 256).map fun i=>(Lib.bitLen i).toUInt8
theorem NT {i:Int} {b:UInt8} {l:List UInt8} (hl:l = GX) (h0:0 ≤ i) (h1:i < 256) (h:l[i.toNat]? = some b):(b.toNat:Int) = Lib.bitLen i.toNat:=by
 subst hl
 unfold GX at h
 rw [List.getElem?_map,List.getElem?_range (by omega)] at h
 cases h
 have:=Lib.bitLen_le8 ⟨i.toNat,by omega⟩
 dsimp only at this
 show (((Lib.bitLen i.toNat).toUInt8).toNat:Int) = _
 rw [show ((Lib.bitLen i.toNat).toUInt8).toNat = Lib.bitLen i.toNat % 256 from rfl,Nat.mod_eq_of_lt (by omega)]
theorem w7 (k:Nat) (x:Int) (h:(2:Int) ^ k ≤ x) (h2:x < 18446744073709551616):(Lib.bitLen x.toNat:Int) = k + Lib.bitLen (x / 2 ^ k).toNat:=by
 obtain ⟨X,rfl⟩:=Int.eq_ofNat_of_zero_le (show 0 ≤ x by have:(0:Int) < 2 ^ k:=Int.pow_pos (by decide);omega)
 have h3:2 ^ k ≤ X:=by exact_mod_cast h
 have:=Lib.bitLen_shift k X h3 (by omega)
 have e:((X:Int) / 2 ^ k).toNat = X / 2 ^ k:=by
  have:((X / 2 ^ k:Nat):Int) = (X:Int) / 2 ^ k:=by rw [Int.natCast_ediv,Int.natCast_pow];rfl
  rw [← this];rfl
 rw [e,Int.toNat_natCast,this];omega
theorem f32 (x:Int):x.fdiv (2 ^ min (Int.toNat 32) IntKind.u64.bits) = x / 4294967296:=by rw [Int.fdiv_eq_ediv_of_nonneg _ (by decide)];rfl
theorem f16 (x:Int):x.fdiv (2 ^ min (Int.toNat 16) IntKind.u64.bits) = x / 65536:=by rw [Int.fdiv_eq_ediv_of_nonneg _ (by decide)];rfl
theorem f8 (x:Int):x.fdiv (2 ^ min (Int.toNat 8) IntKind.u64.bits) = x / 256:=by rw [Int.fdiv_eq_ediv_of_nonneg _ (by decide)];rfl
theorem f58 (x:Int):x.fdiv (2 ^ min (Int.toNat 58) IntKind.u64.bits) = x / 288230376151711744:=by rw [Int.fdiv_eq_ediv_of_nonneg _ (by decide)];rfl
theorem Rt (x:Int) (h:0 ≤ x ∧ x < 256):IntKind.u8.wrap x = x:=by
 unfold IntKind.wrap;simp [IntKind.signed,IntKind.bits];omega
theorem RQ {l:List UInt8} {e:Int} {F:UInt8 → Prop} (hl:l = GX) (he:0 ≤ e ∧ e < 256) (h:∀ b:UInt8,(b.toNat:Int) = Lib.bitLen e.toNat → Lib.bitLen e.toNat ≤ 8 → F b):J0 l (IntKind.u8.wrap e) F:=by
 rw [Rt e he]
 refine ⟨he.1,by subst hl;simp [GX];omega,fun b hb=>?_⟩
 have h1:=NT hl he.1 he.2 hb
 have h2:=Lib.bitLen_le8 ⟨e.toNat,by omega⟩
 dsimp only at h2
 exact h b h1 h2
set_option maxHeartbeats 16000000 in
theorem Ec (x:Int) (hx:0 ≤ x ∧ x < 18446744073709551616):B6 Tryd.prog 84 [uA x] (.i (Lib.bitLen x.toNat)):=by
 have a1:=w7 32 x;have a2:=w7 16 x;have a3:=w7 8 x
 have a4:=w7 16 (x / 4294967296);have a5:=w7 8 (x / 4294967296);have a6:=w7 8 (x / 65536);have a7:=w7 8 (x / 4294967296 / 65536)
 simp only [Int.reducePow,Int.cast_ofNat_Int] at a1 a2 a3 a4 a5 a6 a7
 have g1:=f32 x;have g2:=f16 x;have g3:=f8 x
 have g4:=f16 (x / 4294967296);have g5:=f8 (x / 4294967296);have g6:=f8 (x / 65536);have g7:=f8 (x / 4294967296 / 65536)
 rw [← g1] at g4 g5 g7;rw [← g2] at g6;rw [← g4] at g7
 rw [← g1] at a1 a4 a5 a7;rw [← g2] at a2 a6;rw [← g3] at a3;rw [← g4] at a4 a7;rw [← g5] at a5;rw [← g6] at a6;rw [← g7] at a7
 refine E1 Tryd.func84 25 fun hrd E h0=>?_
 clear hrd
 repeat' ((first|refine A6 ?_|refine S1 ?_|refine Z1 ?_|refine Z2 ?_|(refine And.intro ?_ ?_<;>intro h<;>try first|(exfalso;omega)|exact absurd rfl h)|refine Z3 ?_|refine Z4 ?_|intro el hel hbB|intro el hel|intro ex|refine Z5 ?_|(refine B2 ?_ ?_;exact ⟨by kernel_rfl,by decide⟩)|refine B0 ?_ ?_|exact A9|refine A8 ?_ ?_|exact A7|(refine A3 ?_ ?_ ?_;kernel_rfl;kernel_rfl)) <;> (try (conv=>whnf)))
 all_goals refine RQ (by kernel_rfl) (by clear a1 a2 a3 a4 a5 a6 a7;omega) fun b hb hb2=>?_
 all_goals repeat' ((first|refine A6 ?_|refine S1 ?_|refine Z1 ?_|refine Z2 ?_|(refine And.intro ?_ ?_<;>intro h<;>try first|(exfalso;omega)|exact absurd rfl h)|refine Z3 ?_|refine Z4 ?_|intro el hel hbB|intro el hel|intro ex|refine Z5 ?_|(refine B2 ?_ ?_;exact ⟨by kernel_rfl,by decide⟩)|refine B0 ?_ ?_|exact A9|refine A8 ?_ ?_|exact A7|(refine A3 ?_ ?_ ?_;kernel_rfl;kernel_rfl)) <;> (try (conv=>whnf)))
 all_goals first | refine C1 rfl (congrArg AV.i ?_) | trace_state
 all_goals (try have b1:=a1 (by omega) (by omega));(try have b2:=a2 (by omega) (by omega));(try have b3:=a3 (by omega) (by omega));(try have b4:=a4 (by omega) (by omega));(try have b5:=a5 (by omega) (by omega));(try have b6:=a6 (by omega) (by omega));(try have b7:=a7 (by omega) (by omega));clear a1 a2 a3 a4 a5 a6 a7;omega
set_option maxHeartbeats 4000000 in
theorem DK (X:Nat) (hX:X < 340282366920938463463374607431768211456):B6 Tryd.prog 78 [H9 X] (.i (lW X)):=by
 have b1:=Y6 X;have b2:=W1 X
 have h1:=Ec (E7 X) b1
 have h2:=Ec (E2 X) b2
 have e1:(E7 X).toNat = X / 18446744073709551616:=by unfold E7;omega
 have e2:(E2 X).toNat = X % 18446744073709551616:=by unfold E2;omega
 rw [e1] at h1
 rw [e2] at h2
 have h0:0 < E7 X ↔ 18446744073709551616 ≤ X:=by unfold E7;omega
 have k1:=S9 hX
 unfold lW at *
 by_cases hc:18446744073709551616 ≤ X
 ·rw [if_pos hc] at k1 ⊢
  have:Lib.bitLen (X / 18446744073709551616) ≤ 64:=by omega
  generalize Lib.bitLen (X / 18446744073709551616) = k at *
  unfold H9
  generalize E7 X = p at *
  generalize E2 X = q at *
  refine E1 Tryd.func78 13 fun hrd E h0=>?_
  clear hrd
  repeat' ((first | refine A4 h1 ?_ |refine A6 ?_|refine S1 ?_|refine Z1 ?_|refine Z2 ?_|(refine And.intro ?_ ?_<;>intro h<;>try first|(exfalso;omega)|exact absurd rfl h)|refine Z3 ?_|refine Z4 ?_|intro el hel hbB|intro el hel|intro ex|refine Z5 ?_|(refine B2 ?_ ?_;exact ⟨by kernel_rfl,by decide⟩)|refine B0 ?_ ?_|exact A9|refine A8 ?_ ?_|exact A7|(refine A3 ?_ ?_ ?_;kernel_rfl;kernel_rfl)) <;> (try (conv=>whnf)))
  all_goals first
   | (exfalso;omega)
   | exact C1 rfl (congrArg AV.i (by omega))
 ·rw [if_neg hc] at k1 ⊢
  rw [Nat.mod_eq_of_lt (by omega)] at h2
  generalize Lib.bitLen X = k at *
  unfold H9
  generalize E7 X = p at *
  generalize E2 X = q at *
  refine E1 Tryd.func78 13 fun hrd E h0=>?_
  clear hrd
  repeat' ((first | refine A4 h2 ?_ |refine A6 ?_|refine S1 ?_|refine Z1 ?_|refine Z2 ?_|(refine And.intro ?_ ?_<;>intro h<;>try first|(exfalso;omega)|exact absurd rfl h)|refine Z3 ?_|refine Z4 ?_|intro el hel hbB|intro el hel|intro ex|refine Z5 ?_|(refine B2 ?_ ?_;exact ⟨by kernel_rfl,by decide⟩)|refine B0 ?_ ?_|exact A9|refine A8 ?_ ?_|exact A7|(refine A3 ?_ ?_ ?_;kernel_rfl;kernel_rfl)) <;> (try (conv=>whnf)))
  all_goals first
   | (exfalso;omega)
   | exact C1 rfl rfl
theorem Qe (x a:Nat) (hx:x < 18446744073709551616) (hx0:x ≠ 0) (hlow:x &&& (18446744073709551616 - x) = a) :
  (IntKind.u64.wrap (IntKind.u64.wrap ((BitVec.ofInt IntKind.u64.bits (x:Int) &&& BitVec.ofInt IntKind.u64.bits (IntKind.u64.wrap (-(x:Int)))).toNat:Int) * 285870213051353865)).fdiv (2 ^ min (Int.toNat 58) IntKind.u64.bits) = ((a * 285870213051353865 % 18446744073709551616 / 288230376151711744:Nat):Int):=by
 have e1:IntKind.u64.wrap (-(x:Int)) = ((18446744073709551616 - x:Nat):Int):=by rw [IntKind.wrap_u64];omega
 have e2:IntKind.u64.wrap ((BitVec.ofInt IntKind.u64.bits (x:Int) &&& BitVec.ofInt IntKind.u64.bits ((18446744073709551616 - x:Nat):Int)).toNat:Int) = ((x &&& (18446744073709551616 - x):Nat):Int):=bits_and_u64_nat x _ hx (by omega)
 rw [f58,e1,e2,hlow,IntKind.wrap_u64]
 omega
set_option maxHeartbeats 4000000 in
theorem Fw (X:Nat) (hX:X < 18446744073709551616):B6 Tryd.prog 83 [uA X] (.i (Lib.ctz 64 X)):=by
 by_cases hx0:X = 0
 ·subst hx0
  rw [show Lib.ctz 64 0 = 64 by rfl]
  refine E1 Tryd.func83 14 fun hrd E h0=>?_
  clear hrd
  repeat' ((first|refine A6 ?_|refine S1 ?_|refine Z1 ?_|refine Z2 ?_|(refine And.intro ?_ ?_<;>intro h<;>try first|(exfalso;omega)|exact absurd rfl h)|refine Z3 ?_|refine Z4 ?_|intro el hel hbB|intro el hel|intro ex|refine Z5 ?_|(refine B2 ?_ ?_;exact ⟨by kernel_rfl,by decide⟩)|refine B0 ?_ ?_|exact A9|refine A8 ?_ ?_|exact A7|(refine A3 ?_ ?_ ?_;kernel_rfl;kernel_rfl)) <;> (try (conv=>whnf)))
  all_goals first
   | (exfalso;omega)
   | exact C1 rfl rfl
 ·obtain ⟨hlow,hk⟩:=Lib.lowest_bit 64 X hx0 hX
  obtain ⟨hi,htab⟩:=Lib.deBruijn64_at _ hk
  have key:=Qe X _ hX hx0 hlow
  generalize 2 ^ Lib.ctz 64 X * 285870213051353865 % 18446744073709551616 / 288230376151711744 = G9 at *
  generalize Lib.ctz 64 X = k at *
  have hcell:(((Lib.deBruijn64tab.map Int.ofNat).map fun z=>AV.v (.int .u8 z)):List AV)[(((G9:Nat):Int)).toNat]? = some (.v (.int .u8 (k:Int))):=by
   rw [Int.toNat_natCast,List.getElem?_map,List.getElem?_map]
   have:Lib.deBruijn64tab[G9]? = some k:=by
    have hlt:G9 < Lib.deBruijn64tab.length:=hi
    generalize Lib.deBruijn64tab = T at *
    rw [List.getD_eq_getElem?_getD] at htab
    rw [List.getElem?_eq_getElem hlt] at htab ⊢
    rw [Option.getD_some] at htab
    rw [htab]
   rw [this];rfl
  refine E1 Tryd.func83 14 fun hrd E h0=>?_
  clear hrd
  repeat' ((first|refine A6 ?_|refine S1 ?_|refine Z1 ?_|refine Z2 ?_|(refine And.intro ?_ ?_<;>intro h<;>try first|(exfalso;omega)|exact absurd rfl h)|refine Z3 ?_|refine Z4 ?_|intro el hel hbB|intro el hel|intro ex|refine Z5 ?_|(refine B2 ?_ ?_;exact ⟨by kernel_rfl,by decide⟩)|refine B0 ?_ ?_|exact A9|refine A8 ?_ ?_|exact A7|(refine A3 ?_ ?_ ?_;kernel_rfl;kernel_rfl)) <;> (try (conv=>whnf)))
  all_goals first
   | (exfalso;omega)
   | skip
  refine I2 (x:=AV.v (.int .u8 (k:Int))) (by rw [key];exact hcell) (by rw [key];omega) ?_
  repeat' ((first|refine A6 ?_|refine S1 ?_|refine Z1 ?_|refine Z2 ?_|(refine And.intro ?_ ?_<;>intro h<;>try first|(exfalso;omega)|exact absurd rfl h)|refine Z3 ?_|refine Z4 ?_|intro el hel hbB|intro el hel|intro ex|refine Z5 ?_|(refine B2 ?_ ?_;exact ⟨by kernel_rfl,by decide⟩)|refine B0 ?_ ?_|exact A9|refine A8 ?_ ?_|exact A7|(refine A3 ?_ ?_ ?_;kernel_rfl;kernel_rfl)) <;> (try (conv=>whnf)))
  all_goals first
   | (exfalso;omega)
   | exact C1 rfl (congrArg AV.i (I9 (by omega)))
set_option maxHeartbeats 4000000 in
theorem BU (X:Nat) (h0x:X ≠ 0) (hX:X < 340282366920938463463374607431768211456):B6 Tryd.prog 75 [H9 X] (.i (zW X)):=by
 have b1:=Y6 X;have b2:=W1 X
 have e1:E7 X = ((X / 18446744073709551616:Nat):Int):=by unfold E7;omega
 have e2:E2 X = ((X % 18446744073709551616:Nat):Int):=by unfold E2;omega
 have h1:=Fw (X / 18446744073709551616) (by omega)
 have h2:=Fw (X % 18446744073709551616) (by omega)
 rw [← e1] at h1
 rw [← e2] at h2
 obtain ⟨_,_,k1⟩:=Iv h0x hX
 have hz:E2 X = 0 ↔ X % 18446744073709551616 = 0:=by rw [e2];omega
 unfold zW at *
 by_cases hc:X % 18446744073709551616 = 0
 ·rw [if_pos hc] at k1 ⊢
  have hz2:=hz.2 hc
  generalize Lib.ctz 64 (X / 18446744073709551616) = k at *
  clear h2 hz e1 e2 hc
  unfold H9
  generalize E7 X = p at *
  generalize E2 X = q at *
  refine E1 Tryd.func75 13 fun hrd E h0=>?_
  clear hrd
  repeat' ((first | refine A4 h1 ?_ |refine A6 ?_|refine S1 ?_|refine Z1 ?_|refine Z2 ?_|(refine And.intro ?_ ?_<;>intro h<;>try first|(exfalso;omega)|exact absurd rfl h)|refine Z3 ?_|refine Z4 ?_|intro el hel hbB|intro el hel|intro ex|refine Z5 ?_|(refine B2 ?_ ?_;exact ⟨by kernel_rfl,by decide⟩)|refine B0 ?_ ?_|exact A9|refine A8 ?_ ?_|exact A7|(refine A3 ?_ ?_ ?_;kernel_rfl;kernel_rfl)) <;> (try (conv=>whnf)))
  all_goals first
   | (exfalso;omega)
   | exact C1 rfl (congrArg AV.i (by omega))
 ·rw [if_neg hc] at k1 ⊢
  have hz2:¬ E2 X = 0:=fun h=>hc (hz.1 h)
  generalize Lib.ctz 64 (X % 18446744073709551616) = k at *
  clear h1 hz e1 e2 hc
  unfold H9
  generalize E7 X = p at *
  generalize E2 X = q at *
  refine E1 Tryd.func75 13 fun hrd E h0=>?_
  clear hrd
  repeat' ((first | refine A4 h2 ?_ |refine A6 ?_|refine S1 ?_|refine Z1 ?_|refine Z2 ?_|(refine And.intro ?_ ?_<;>intro h<;>try first|(exfalso;omega)|exact absurd rfl h)|refine Z3 ?_|refine Z4 ?_|intro el hel hbB|intro el hel|intro ex|refine Z5 ?_|(refine B2 ?_ ?_;exact ⟨by kernel_rfl,by decide⟩)|refine B0 ?_ ?_|exact A9|refine A8 ?_ ?_|exact A7|(refine A3 ?_ ?_ ?_;kernel_rfl;kernel_rfl)) <;> (try (conv=>whnf)))
  all_goals first
   | (exfalso;omega)
   | exact C1 rfl rfl
end Go.Proofs.YtbhegmcbpolemaaDoor
