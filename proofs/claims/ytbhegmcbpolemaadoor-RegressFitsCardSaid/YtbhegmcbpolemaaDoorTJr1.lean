/- Numbers of 128 bits: products, signs, sizes, bits. -/
import Derived.Test.YtbhegmcbpolemaaDoorTJr0
set_option linter.unusedVariables false
set_option linter.unnecessarySimpa false
set_option linter.unusedSimpArgs false
namespace Go.Proofs.YtbhegmcbpolemaaDoor
open Go Go.Av
attribute [local irreducible] E4 B6 F1 E7 DQ F6 F9 St.le B5 D4
set_option maxRecDepth 100000
set_option maxHeartbeats 4000000 in
theorem Jl (x y:Int):B5 Tryd.prog 39 [D6 x,D6 y] (D6 (x * y)):=by
 have b1:=M5 x;have b2:=L9 x;have b3:=M5 y;have b4:=L9 y
 have h1:=o8 (C1 x) (C1 y) b2 b4
 have e1:=EN x y
 have e2:=EO x y
 unfold D6
 rw [← e1, ← e2]
 generalize C2 x = p at *
 generalize C1 x = q at *
 generalize C2 y = r at *
 generalize C1 y = s at *
 refine D1 Tryd.func39 30 (fun hrd E h0=>?_) (hcells:=by intro t T h;cases h;exact ⟨2,inferInstance,fun l h=>by cases h;rfl⟩)
 clear hrd
 repeat' ((first | refine A4 h1 ?_ |refine A5 ?_|refine S1 ?_|refine Z1 ?_|refine Z2 ?_|(refine And.intro ?_ ?_<;>intro h<;>try first|(exfalso;omega)|exact absurd rfl h)|refine Z3 ?_|refine Z4 ?_|intro el hel hbB|intro el hel|intro ex|refine Z5 ?_|(refine B0 ?_ ?_;exact ⟨by kernel_rfl,by decide⟩)|refine A9 ?_ ?_|exact A8|refine A7 ?_ ?_|exact A6|(refine A3 ?_ ?_ ?_;kernel_rfl;kernel_rfl)) <;> (try (conv=>whnf)))
 all_goals first
  | (refine F4 rfl rfl ?_;simp only [HM];exact congrArg (fun z=>AV.agg [uA z,uA (q * s % 18446744073709551616)]) (by omega))
set_option maxHeartbeats 4000000 in
theorem U1 (x:Int) (h:-170141183460469231731687303715884105728 ≤ x ∧ x < 170141183460469231731687303715884105728):B5 Tryd.prog 43 [D6 x] (.i x.sign):=by
 have b1:=M5 x;have b2:=L9 x
 obtain ⟨h1,h2⟩:=EP h
 have e3:(C2 x).fdiv (2 ^ 63) = C2 x / 9223372036854775808:=by rw [Int.fdiv_eq_ediv_of_nonneg _ (by decide)];rfl
 have e:∀ z:Int,(C2 x / 9223372036854775808 = 1 → z = -1) → (C2 x / 9223372036854775808 ≠ 1 → C2 x = 0 ∧ C1 x = 0 → z = 0) → (C2 x / 9223372036854775808 ≠ 1 → ¬ (C2 x = 0 ∧ C1 x = 0) → z = 1) → z = x.sign:=fun z z1 z2 z3=>by
  rcases Int.lt_trichotomy x 0 with hx | hx | hx
  ·rw [z1 (h1.2 hx),Int.sign_eq_neg_one_of_neg hx]
  ·rw [z2 (fun h=>by have:=h1.1 h;omega) (h2.2 hx),hx];rfl
  ·rw [z3 (fun h=>by have:=h1.1 h;omega) (fun h=>by have:=h2.1 h;omega),Int.sign_eq_one_of_pos hx]
 unfold D6
 rw [← e3] at e
 generalize x.sign = s at *
 generalize C2 x = p at *
 generalize C1 x = q at *
 clear h1 h2 h
 refine D1 Tryd.func43 12 fun hrd E h0=>?_
 clear hrd
 repeat' ((first|refine A5 ?_|refine S1 ?_|refine Z1 ?_|refine Z2 ?_|(refine And.intro ?_ ?_<;>intro h<;>try first|(exfalso;omega)|exact absurd rfl h)|refine Z3 ?_|refine Z4 ?_|intro el hel hbB|intro el hel|intro ex|refine Z5 ?_|(refine B0 ?_ ?_;exact ⟨by kernel_rfl,by decide⟩)|refine A9 ?_ ?_|exact A8|refine A7 ?_ ?_|exact A6|(refine A3 ?_ ?_ ?_;kernel_rfl;kernel_rfl)) <;> (try (conv=>whnf)))
 all_goals first
  | exact B9 rfl (congrArg AV.i (e _ (fun _=>rfl) (fun h _=>absurd (by assumption) h) fun h _=>absurd (by assumption) h))
  | exact B9 rfl (congrArg AV.i (e _ (fun h=>absurd h (by assumption)) (fun _ _=>rfl) fun _ h=>absurd (by assumption) h))
  | exact B9 rfl (congrArg AV.i (e _ (fun h=>absurd h (by assumption)) (fun _ h=>absurd h (by assumption)) fun _ _=>rfl))
set_option maxHeartbeats 4000000 in
theorem LC (x:Int) (h:-170141183460469231731687303715884105728 ≤ x ∧ x < 170141183460469231731687303715884105728):B5 Tryd.prog 60 [D6 x] (D6 x.natAbs):=by
 have h1:=U1 x h
 have h2:=S3 x
 rcases Int.lt_or_le x 0 with hx | hx
 ·rw [show ((x.natAbs:Nat):Int) = -x by omega]
  rw [Int.sign_eq_neg_one_of_neg hx] at h1
  refine D1 Tryd.func60 9 (fun hrd E h0=>?_) (hcells:=by intro t T h;cases h;exact ⟨2,inferInstance,fun l h=>by cases h;rfl⟩)
  clear hrd
  repeat' ((first | refine A4 h1 ?_ | refine A4 h2 ?_ |refine A5 ?_|refine S1 ?_|refine Z1 ?_|refine Z2 ?_|(refine And.intro ?_ ?_<;>intro h<;>try first|(exfalso;omega)|exact absurd rfl h)|refine Z3 ?_|refine Z4 ?_|intro el hel hbB|intro el hel|intro ex|refine Z5 ?_|(refine B0 ?_ ?_;exact ⟨by kernel_rfl,by decide⟩)|refine A9 ?_ ?_|exact A8|refine A7 ?_ ?_|exact A6|(refine A3 ?_ ?_ ?_;kernel_rfl;kernel_rfl)) <;> (try (conv=>whnf)))
  all_goals first
   | (exfalso;omega)
   | exact F4 rfl rfl rfl
 ·rw [show ((x.natAbs:Nat):Int) = x by omega]
  have:0 ≤ x.sign:=by
   rcases Int.lt_or_eq_of_le hx with h3 | h3
   ·rw [Int.sign_eq_one_of_pos h3];decide
   ·rw [← h3];decide
  generalize x.sign = s at *
  refine D1 Tryd.func60 9 (fun hrd E h0=>?_) (hcells:=by intro t T h;cases h;exact ⟨2,inferInstance,fun l h=>by cases h;rfl⟩)
  clear hrd
  repeat' ((first | refine A4 h1 ?_ |refine A5 ?_|refine S1 ?_|refine Z1 ?_|refine Z2 ?_|(refine And.intro ?_ ?_<;>intro h<;>try first|(exfalso;omega)|exact absurd rfl h)|refine Z3 ?_|refine Z4 ?_|intro el hel hbB|intro el hel|intro ex|refine Z5 ?_|(refine B0 ?_ ?_;exact ⟨by kernel_rfl,by decide⟩)|refine A9 ?_ ?_|exact A8|refine A7 ?_ ?_|exact A6|(refine A3 ?_ ?_ ?_;kernel_rfl;kernel_rfl)) <;> (try (conv=>whnf)))
  all_goals first
   | (exfalso;omega)
   | exact F4 rfl rfl rfl
def GJ:List UInt8:=(List.range 256).map fun i=>(Lib.bitLen i).toUInt8
theorem Ms {i:Int} {b:UInt8} {l:List UInt8} (hl:l = GJ) (h0:0 ≤ i) (h1:i < 256) (h:l[i.toNat]? = some b):(b.toNat:Int) = Lib.bitLen i.toNat:=by
 subst hl
 unfold GJ at h
 rw [List.getElem?_map,List.getElem?_range (by omega)] at h
 cases h
 have:=Lib.bitLen_le8 ⟨i.toNat,by omega⟩
 dsimp only at this
 show (((Lib.bitLen i.toNat).toUInt8).toNat:Int) = _
 rw [show ((Lib.bitLen i.toNat).toUInt8).toNat = Lib.bitLen i.toNat % 256 from rfl,Nat.mod_eq_of_lt (by omega)]
theorem u2 (k:Nat) (x:Int) (h:(2:Int) ^ k ≤ x) (h2:x < 18446744073709551616):(Lib.bitLen x.toNat:Int) = k + Lib.bitLen (x / 2 ^ k).toNat:=by
 obtain ⟨X,rfl⟩:=Int.eq_ofNat_of_zero_le (show 0 ≤ x by have:(0:Int) < 2 ^ k:=Int.pow_pos (by decide);omega)
 have h3:2 ^ k ≤ X:=by exact_mod_cast h
 have:=Lib.bitLen_shift k X h3 (by omega)
 have e:((X:Int) / 2 ^ k).toNat = X / 2 ^ k:=by
  have:((X / 2 ^ k:Nat):Int) = (X:Int) / 2 ^ k:=by rw [Int.natCast_ediv,Int.natCast_pow];rfl
  rw [← this];rfl
 rw [e,Int.toNat_natCast,this];omega
theorem f32 (x:Int):x.fdiv (2 ^ min (Int.toNat 32) IntKind.u64.bits) = x / 4294967296:=by rw [Int.fdiv_eq_ediv_of_nonneg _ (by decide)];rfl
theorem f16 (x:Int):x.fdiv (2 ^ min (Int.toNat 16) IntKind.u64.bits) = x / 65536:=by rw [Int.fdiv_eq_ediv_of_nonneg _ (by decide)];rfl
theorem f8 (x:Int):x.fdiv (2 ^ min (Int.toNat 8) IntKind.u64.bits) = x / 256:=by rw [Int.fdiv_eq_ediv_of_nonneg _ (by decide)];rfl
theorem f58 (x:Int):x.fdiv (2 ^ min (Int.toNat 58) IntKind.u64.bits) = x / 288230376151711744:=by rw [Int.fdiv_eq_ediv_of_nonneg _ (by decide)];rfl
theorem RT (x:Int) (h:0 ≤ x ∧ x < 256):IntKind.u8.wrap x = x:=by
 unfold IntKind.wrap;simp [IntKind.signed,IntKind.bits];omega
theorem Qo {l:List UInt8} {e:Int} {F:UInt8 → Prop} (hl:l = GJ) (he:0 ≤ e ∧ e < 256) (h:∀ b:UInt8,(b.toNat:Int) = Lib.bitLen e.toNat → Lib.bitLen e.toNat ≤ 8 → F b):J1 l (IntKind.u8.wrap e) F:=by
 rw [RT e he]
 refine ⟨he.1,by subst hl;simp [GJ];omega,fun b hb=>?_⟩
 have h1:=Ms hl he.1 he.2 hb
 have h2:=Lib.bitLen_le8 ⟨e.toNat,by omega⟩
 dsimp only at h2
 exact h b h1 h2
set_option maxHeartbeats 16000000 in
theorem ER (x:Int) (hx:0 ≤ x ∧ x < 18446744073709551616):B5 Tryd.prog 84 [uA x] (.i (Lib.bitLen x.toNat)):=by
 have a1:=u2 32 x;have a2:=u2 16 x;have a3:=u2 8 x
 have a4:=u2 16 (x / 4294967296);have a5:=u2 8 (x / 4294967296);have a6:=u2 8 (x / 65536);have a7:=u2 8 (x / 4294967296 / 65536)
 simp only [Int.reducePow,Int.cast_ofNat_Int] at a1 a2 a3 a4 a5 a6 a7
 have g1:=f32 x;have g2:=f16 x;have g3:=f8 x
 have g4:=f16 (x / 4294967296);have g5:=f8 (x / 4294967296);have g6:=f8 (x / 65536);have g7:=f8 (x / 4294967296 / 65536)
 rw [← g1] at g4 g5 g7;rw [← g2] at g6;rw [← g4] at g7
 rw [← g1] at a1 a4 a5 a7;rw [← g2] at a2 a6;rw [← g3] at a3;rw [← g4] at a4 a7;rw [← g5] at a5;rw [← g6] at a6;rw [← g7] at a7
 refine D1 Tryd.func84 25 fun hrd E h0=>?_
 clear hrd
 repeat' ((first|refine A5 ?_|refine S1 ?_|refine Z1 ?_|refine Z2 ?_|(refine And.intro ?_ ?_<;>intro h<;>try first|(exfalso;omega)|exact absurd rfl h)|refine Z3 ?_|refine Z4 ?_|intro el hel hbB|intro el hel|intro ex|refine Z5 ?_|(refine B0 ?_ ?_;exact ⟨by kernel_rfl,by decide⟩)|refine A9 ?_ ?_|exact A8|refine A7 ?_ ?_|exact A6|(refine A3 ?_ ?_ ?_;kernel_rfl;kernel_rfl)) <;> (try (conv=>whnf)))
 all_goals refine Qo (by kernel_rfl) (by clear a1 a2 a3 a4 a5 a6 a7;omega) fun b hb hb2=>?_
 all_goals repeat' ((first|refine A5 ?_|refine S1 ?_|refine Z1 ?_|refine Z2 ?_|(refine And.intro ?_ ?_<;>intro h<;>try first|(exfalso;omega)|exact absurd rfl h)|refine Z3 ?_|refine Z4 ?_|intro el hel hbB|intro el hel|intro ex|refine Z5 ?_|(refine B0 ?_ ?_;exact ⟨by kernel_rfl,by decide⟩)|refine A9 ?_ ?_|exact A8|refine A7 ?_ ?_|exact A6|(refine A3 ?_ ?_ ?_;kernel_rfl;kernel_rfl)) <;> (try (conv=>whnf)))
 all_goals first | refine B9 rfl (congrArg AV.i ?_) | trace_state
 all_goals (try have b1:=a1 (by omega) (by omega));(try have b2:=a2 (by omega) (by omega));(try have b3:=a3 (by omega) (by omega));(try have b4:=a4 (by omega) (by omega));(try have b5:=a5 (by omega) (by omega));(try have b6:=a6 (by omega) (by omega));(try have b7:=a7 (by omega) (by omega));clear a1 a2 a3 a4 a5 a6 a7;omega
set_option maxHeartbeats 4000000 in
theorem Ct (X:Nat) (hX:X < 340282366920938463463374607431768211456):B5 Tryd.prog 78 [D6 X] (.i (lW X)):=by
 have b1:=M5 X;have b2:=L9 X
 have h1:=ER (C2 X) b1
 have h2:=ER (C1 X) b2
 have e1:(C2 X).toNat = X / 18446744073709551616:=by unfold C2;omega
 have e2:(C1 X).toNat = X % 18446744073709551616:=by unfold C1;omega
 rw [e1] at h1
 rw [e2] at h2
 have h0:0 < C2 X ↔ 18446744073709551616 ≤ X:=by unfold C2;omega
 have k1:=T0 hX
 unfold lW at *
 by_cases hc:18446744073709551616 ≤ X
 ·rw [if_pos hc] at k1 ⊢
  have:Lib.bitLen (X / 18446744073709551616) ≤ 64:=by omega
  generalize Lib.bitLen (X / 18446744073709551616) = k at *
  unfold D6
  generalize C2 X = p at *
  generalize C1 X = q at *
  refine D1 Tryd.func78 13 fun hrd E h0=>?_
  clear hrd
  repeat' ((first | refine A4 h1 ?_ |refine A5 ?_|refine S1 ?_|refine Z1 ?_|refine Z2 ?_|(refine And.intro ?_ ?_<;>intro h<;>try first|(exfalso;omega)|exact absurd rfl h)|refine Z3 ?_|refine Z4 ?_|intro el hel hbB|intro el hel|intro ex|refine Z5 ?_|(refine B0 ?_ ?_;exact ⟨by kernel_rfl,by decide⟩)|refine A9 ?_ ?_|exact A8|refine A7 ?_ ?_|exact A6|(refine A3 ?_ ?_ ?_;kernel_rfl;kernel_rfl)) <;> (try (conv=>whnf)))
  all_goals first
   | (exfalso;omega)
   | exact B9 rfl (congrArg AV.i (by omega))
 ·rw [if_neg hc] at k1 ⊢
  rw [Nat.mod_eq_of_lt (by omega)] at h2
  generalize Lib.bitLen X = k at *
  unfold D6
  generalize C2 X = p at *
  generalize C1 X = q at *
  refine D1 Tryd.func78 13 fun hrd E h0=>?_
  clear hrd
  repeat' ((first | refine A4 h2 ?_ |refine A5 ?_|refine S1 ?_|refine Z1 ?_|refine Z2 ?_|(refine And.intro ?_ ?_<;>intro h<;>try first|(exfalso;omega)|exact absurd rfl h)|refine Z3 ?_|refine Z4 ?_|intro el hel hbB|intro el hel|intro ex|refine Z5 ?_|(refine B0 ?_ ?_;exact ⟨by kernel_rfl,by decide⟩)|refine A9 ?_ ?_|exact A8|refine A7 ?_ ?_|exact A6|(refine A3 ?_ ?_ ?_;kernel_rfl;kernel_rfl)) <;> (try (conv=>whnf)))
  all_goals first
   | (exfalso;omega)
   | exact B9 rfl rfl
theorem Py (x a:Nat) (hx:x < 18446744073709551616) (hx0:x ≠ 0) (hlow:x &&& (18446744073709551616 - x) = a) :
  (IntKind.u64.wrap (IntKind.u64.wrap ((BitVec.ofInt IntKind.u64.bits (x:Int) &&& BitVec.ofInt IntKind.u64.bits (IntKind.u64.wrap (-(x:Int)))).toNat:Int) * 285870213051353865)).fdiv (2 ^ min (Int.toNat 58) IntKind.u64.bits) = ((a * 285870213051353865 % 18446744073709551616 / 288230376151711744:Nat):Int):=by
 have e1:IntKind.u64.wrap (-(x:Int)) = ((18446744073709551616 - x:Nat):Int):=by rw [IntKind.wrap_u64];omega
 have e2:IntKind.u64.wrap ((BitVec.ofInt IntKind.u64.bits (x:Int) &&& BitVec.ofInt IntKind.u64.bits ((18446744073709551616 - x:Nat):Int)).toNat:Int) = ((x &&& (18446744073709551616 - x):Nat):Int):=bits_and_u64_nat x _ hx (by omega)
 rw [f58,e1,e2,hlow,IntKind.wrap_u64]
 omega
set_option maxHeartbeats 4000000 in
theorem Ff (X:Nat) (hX:X < 18446744073709551616):B5 Tryd.prog 83 [uA X] (.i (Lib.ctz 64 X)):=by
 by_cases hx0:X = 0
 ·subst hx0
  rw [show Lib.ctz 64 0 = 64 by rfl]
  refine D1 Tryd.func83 14 fun hrd E h0=>?_
  clear hrd
  repeat' ((first|refine A5 ?_|refine S1 ?_|refine Z1 ?_|refine Z2 ?_|(refine And.intro ?_ ?_<;>intro h<;>try first|(exfalso;omega)|exact absurd rfl h)|refine Z3 ?_|refine Z4 ?_|intro el hel hbB|intro el hel|intro ex|refine Z5 ?_|(refine B0 ?_ ?_;exact ⟨by kernel_rfl,by decide⟩)|refine A9 ?_ ?_|exact A8|refine A7 ?_ ?_|exact A6|(refine A3 ?_ ?_ ?_;kernel_rfl;kernel_rfl)) <;> (try (conv=>whnf)))
  all_goals first
   | (exfalso;omega)
   | exact B9 rfl rfl
 ·obtain ⟨hlow,hk⟩:=Lib.lowest_bit 64 X hx0 hX
  obtain ⟨hi,htab⟩:=Lib.deBruijn64_at _ hk
  have key:=Py X _ hX hx0 hlow
  generalize 2 ^ Lib.ctz 64 X * 285870213051353865 % 18446744073709551616 / 288230376151711744 = G8 at *
  generalize Lib.ctz 64 X = k at *
  have hcell:(((Lib.deBruijn64tab.map Int.ofNat).map fun z=>AV.v (.int .u8 z)):List AV)[(((G8:Nat):Int)).toNat]? = some (.v (.int .u8 (k:Int))):=by
   rw [Int.toNat_natCast,List.getElem?_map,List.getElem?_map]
   have:Lib.deBruijn64tab[G8]? = some k:=by
    have hlt:G8 < Lib.deBruijn64tab.length:=hi
    generalize Lib.deBruijn64tab = T at *
    rw [List.getD_eq_getElem?_getD] at htab
    rw [List.getElem?_eq_getElem hlt] at htab ⊢
    rw [Option.getD_some] at htab
    rw [htab]
   rw [this];rfl
  refine D1 Tryd.func83 14 fun hrd E h0=>?_
  clear hrd
  repeat' ((first|refine A5 ?_|refine S1 ?_|refine Z1 ?_|refine Z2 ?_|(refine And.intro ?_ ?_<;>intro h<;>try first|(exfalso;omega)|exact absurd rfl h)|refine Z3 ?_|refine Z4 ?_|intro el hel hbB|intro el hel|intro ex|refine Z5 ?_|(refine B0 ?_ ?_;exact ⟨by kernel_rfl,by decide⟩)|refine A9 ?_ ?_|exact A8|refine A7 ?_ ?_|exact A6|(refine A3 ?_ ?_ ?_;kernel_rfl;kernel_rfl)) <;> (try (conv=>whnf)))
  all_goals first
   | (exfalso;omega)
   | skip
  refine H9 (x:=AV.v (.int .u8 (k:Int))) (by rw [key];exact hcell) (by rw [key];omega) ?_
  repeat' ((first|refine A5 ?_|refine S1 ?_|refine Z1 ?_|refine Z2 ?_|(refine And.intro ?_ ?_<;>intro h<;>try first|(exfalso;omega)|exact absurd rfl h)|refine Z3 ?_|refine Z4 ?_|intro el hel hbB|intro el hel|intro ex|refine Z5 ?_|(refine B0 ?_ ?_;exact ⟨by kernel_rfl,by decide⟩)|refine A9 ?_ ?_|exact A8|refine A7 ?_ ?_|exact A6|(refine A3 ?_ ?_ ?_;kernel_rfl;kernel_rfl)) <;> (try (conv=>whnf)))
  all_goals first
   | (exfalso;omega)
   | exact B9 rfl (congrArg AV.i (H4 (by omega)))
set_option maxHeartbeats 4000000 in
theorem BD (X:Nat) (h0x:X ≠ 0) (hX:X < 340282366920938463463374607431768211456):B5 Tryd.prog 75 [D6 X] (.i (zW X)):=by
 have b1:=M5 X;have b2:=L9 X
 have e1:C2 X = ((X / 18446744073709551616:Nat):Int):=by unfold C2;omega
 have e2:C1 X = ((X % 18446744073709551616:Nat):Int):=by unfold C1;omega
 have h1:=Ff (X / 18446744073709551616) (by omega)
 have h2:=Ff (X % 18446744073709551616) (by omega)
 rw [← e1] at h1
 rw [← e2] at h2
 obtain ⟨_,_,k1⟩:=Ic h0x hX
 have hz:C1 X = 0 ↔ X % 18446744073709551616 = 0:=by rw [e2];omega
 unfold zW at *
 by_cases hc:X % 18446744073709551616 = 0
 ·rw [if_pos hc] at k1 ⊢
  have hz2:=hz.2 hc
  generalize Lib.ctz 64 (X / 18446744073709551616) = k at *
  clear h2 hz e1 e2 hc
  unfold D6
  generalize C2 X = p at *
  generalize C1 X = q at *
  refine D1 Tryd.func75 13 fun hrd E h0=>?_
  clear hrd
  repeat' ((first | refine A4 h1 ?_ |refine A5 ?_|refine S1 ?_|refine Z1 ?_|refine Z2 ?_|(refine And.intro ?_ ?_<;>intro h<;>try first|(exfalso;omega)|exact absurd rfl h)|refine Z3 ?_|refine Z4 ?_|intro el hel hbB|intro el hel|intro ex|refine Z5 ?_|(refine B0 ?_ ?_;exact ⟨by kernel_rfl,by decide⟩)|refine A9 ?_ ?_|exact A8|refine A7 ?_ ?_|exact A6|(refine A3 ?_ ?_ ?_;kernel_rfl;kernel_rfl)) <;> (try (conv=>whnf)))
  all_goals first
   | (exfalso;omega)
   | exact B9 rfl (congrArg AV.i (by omega))
 ·rw [if_neg hc] at k1 ⊢
  have hz2:¬ C1 X = 0:=fun h=>hc (hz.1 h)
  generalize Lib.ctz 64 (X % 18446744073709551616) = k at *
  clear h1 hz e1 e2 hc
  unfold D6
  generalize C2 X = p at *
  generalize C1 X = q at *
  refine D1 Tryd.func75 13 fun hrd E h0=>?_
  clear hrd
  repeat' ((first | refine A4 h2 ?_ |refine A5 ?_|refine S1 ?_|refine Z1 ?_|refine Z2 ?_|(refine And.intro ?_ ?_<;>intro h<;>try first|(exfalso;omega)|exact absurd rfl h)|refine Z3 ?_|refine Z4 ?_|intro el hel hbB|intro el hel|intro ex|refine Z5 ?_|(refine B0 ?_ ?_;exact ⟨by kernel_rfl,by decide⟩)|refine A9 ?_ ?_|exact A8|refine A7 ?_ ?_|exact A6|(refine A3 ?_ ?_ ?_;kernel_rfl;kernel_rfl)) <;> (try (conv=>whnf)))
  all_goals first
   | (exfalso;omega)
   | exact B9 rfl rfl
end Go.Proofs.YtbhegmcbpolemaaDoor
