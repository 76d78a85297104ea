/- Chapter 5: the reference's words and numbers. -/
import Derived.Test.YtiphlhoclaogjabGreatDoorQRp1
set_option linter.unusedVariables false
set_option linter.unnecessarySimpa false
set_option linter.unusedSimpArgs false
namespace Go.Proofs.YtiphlhoclaogjabGreatDoor
open Go Go.Av
attribute [local irreducible] D6 B8 D8 D7 DQ E0 E1 St.le B4 B9
set_option maxRecDepth 100000
theorem WQ (w t:List UInt8):(H9 w t).2 = w.isPrefixOf t:=by
 unfold H9
 split
 ·rename_i h;exact h.symm
 ·rename_i h;exact (eq_false_of_ne_true h).symm
set_option maxHeartbeats 2000000 in
theorem Ir (t w:List UInt8) (ht:t.length ≤ 9223372036854775807) (hw:w.length ≤ 9223372036854775807):B4 Tryz.prog 46 [.str t, .str w] (.b (H9 w t).2):=by
 have hp:=CI t w ht hw
 rw [WQ]
 refine F3 Tryz.func46 8 fun hrd E h0=>?_
 clear hrd
 repeat' ((first | refine B2 hp ?_ |refine A4 ?_|refine S1 ?_|refine Z1 ?_|refine Z2 ?_|(refine And.intro ?_ ?_<;>intro h<;>try first|(exfalso;omega)|exact absurd rfl h)|refine Z3 ?_|refine Z4 ?_|intro el hel hbB|intro el hel|intro ex|refine Z5 ?_|(refine A9 ?_ ?_;exact ⟨by kernel_rfl,by decide⟩)|refine A8 ?_ ?_|exact A7|refine A6 ?_ ?_|exact A5|(refine A0 ?_ ?_ ?_;kernel_rfl;kernel_rfl)) <;> (try (conv=>whnf)))
 all_goals exact B5 rfl rfl
set_option maxHeartbeats 2000000 in
theorem Gb (t w:List UInt8) (ht:t.length ≤ 9223372036854775807) (hw:w.length ≤ 9223372036854775807):B4 Tryz.prog 99 [.str t, .str w] (.str (H9 w t).1):=by
 have hp:=CI t w ht hw
 have hq:=MC (w:=w) (t:=t)
 unfold H9
 refine F3 Tryz.func99 13 fun hrd E h0=>?_
 clear hrd
 by_cases h:w.isPrefixOf t = true
 ·rw [if_pos h]
  rw [h] at hp
  have hq:=hq.1 h
  repeat' ((first | refine B2 hp ?_ |refine A4 ?_|refine S1 ?_|refine Z1 ?_|refine Z2 ?_|(refine And.intro ?_ ?_<;>intro h<;>try first|(exfalso;omega)|exact absurd rfl h)|refine Z3 ?_|refine Z4 ?_|intro el hel hbB|intro el hel|intro ex|refine Z5 ?_|(refine A9 ?_ ?_;exact ⟨by kernel_rfl,by decide⟩)|refine A8 ?_ ?_|exact A7|refine A6 ?_ ?_|exact A5|(refine A0 ?_ ?_ ?_;kernel_rfl;kernel_rfl)) <;> (try (conv=>whnf)))
  all_goals first
   | exact B5 rfl (congrArg AV.str (by simp))
 ·have h2:w.isPrefixOf t = false:=eq_false_of_ne_true h
  rw [if_neg h]
  rw [h2] at hp
  repeat' ((first | refine B2 hp ?_ |refine A4 ?_|refine S1 ?_|refine Z1 ?_|refine Z2 ?_|(refine And.intro ?_ ?_<;>intro h<;>try first|(exfalso;omega)|exact absurd rfl h)|refine Z3 ?_|refine Z4 ?_|intro el hel hbB|intro el hel|intro ex|refine Z5 ?_|(refine A9 ?_ ?_;exact ⟨by kernel_rfl,by decide⟩)|refine A8 ?_ ?_|exact A7|refine A6 ?_ ?_|exact A5|(refine A0 ?_ ?_ ?_;kernel_rfl;kernel_rfl)) <;> (try (conv=>whnf)))
  all_goals first
   | exact B5 rfl rfl
set_option maxHeartbeats 2000000 in
theorem e9 (t w:List UInt8) (ht:t.length ≤ 9223372036854775807) (hw:w.length ≤ 9223372036854775807):B4 Tryz.prog 71 [.str t, .str w] (.str (H9 w t).1):=by
 have hp:=Gb t w ht hw
 refine F3 Tryz.func71 8 fun hrd E h0=>?_
 clear hrd
 repeat' ((first | refine B2 hp ?_ |refine A4 ?_|refine S1 ?_|refine Z1 ?_|refine Z2 ?_|(refine And.intro ?_ ?_<;>intro h<;>try first|(exfalso;omega)|exact absurd rfl h)|refine Z3 ?_|refine Z4 ?_|intro el hel hbB|intro el hel|intro ex|refine Z5 ?_|(refine A9 ?_ ?_;exact ⟨by kernel_rfl,by decide⟩)|refine A8 ?_ ?_|exact A7|refine A6 ?_ ?_|exact A5|(refine A0 ?_ ?_ ?_;kernel_rfl;kernel_rfl)) <;> (try (conv=>whnf)))
 all_goals exact B5 rfl rfl
def YK (t:List UInt8) (n:Nat):Prop:=n ≤ t.length ∧ ∀ i b,i < n → t[i]? = some b → Jl b = true
theorem YK.all {t:List UInt8} {n:Nat} (h:YK t n) (hn:¬ (n:Int) < t.length):t.takeWhile Jl = t.take n :=
 (GZ (fun i c hi hc=>h.2 i c hi hc) h.1 (fun c hc=>by have:=(List.getElem?_eq_some_iff.1 hc).1;omega)).1
theorem RR {b:UInt8} (h1:48 ≤ b.toNat) (h2:b.toNat ≤ 57):U9 b = true:=decide_eq_true ⟨h1,h2⟩
theorem WR {d:List UInt8} {k:Nat} {b:UInt8} (h:(d.take k).all U9 = true) (hb:d[k]? = some b) (hd:U9 b = true):(d.take (k + 1)).all U9 = true:=by
 rw [Q2 hb,List.all_append,h]
 simp [hd]
theorem YL {d:List UInt8} {k:Nat} {b:UInt8} (hb:d[k]? = some b) (hd:U9 b = false):¬ d.all U9 = true:=fun h=>by
 rw [List.all_eq_true] at h
 rw [h b (List.mem_of_getElem? hb)] at hd
 cases hd
theorem Tq:∀ n:Fin 10,IntKind.i64.wrap (IntKind.u8.wrap (((48 + n.val:Nat):Int) - 48)) = ((n.val:Nat):Int):=by decide +kernel
theorem WS {b:Nat} (h1:48 ≤ b) (h2:b ≤ 57):IntKind.i64.wrap (IntKind.u8.wrap ((b:Int) - 48)) = ((b - 48:Nat):Int):=by
 have:=Tq ⟨b - 48,by omega⟩
 rwa [show 48 + (⟨b - 48,by omega⟩:Fin 10).val = b by show 48 + (b - 48) = b;omega] at this
set_option maxHeartbeats 8000000 in
theorem L3 (z:List UInt8) (hz:z.length ≤ 9223372036854775806):B4 Tryz.prog 47 [.str z] (.tup [.i (D1 z).1, .b (D1 z).2]):=by
 have r1:=e9 z [45] (by omega) (by decide)
 have hlen:=Tm [45] z
 unfold D1
 generalize (H9 [45] z).1 = d at *
 have h15:∀ l:List UInt8,l.all U9 = true → l.length ≤ 15 → (d8 l:Int) < 1000000000000000:=fun l h hl=>by
  have h1:=Nu h
  have h2:10 ^ l.length ≤ 10 ^ 15:=Nat.pow_le_pow_right (by decide) hl
  omega
 by_cases h1:d.length < 1 ∨ 15 < d.length
 ·rw [if_pos h1]
  refine F3 Tryz.func47 53 fun hrd E h0=>?_
  clear hrd
  repeat' ((first | refine B2 r1 ?_ |refine A4 ?_|refine S1 ?_|refine Z1 ?_|refine Z2 ?_|(refine And.intro ?_ ?_<;>intro h<;>try first|(exfalso;omega)|exact absurd rfl h)|refine Z3 ?_|refine Z4 ?_|intro el hel hbB|intro el hel|intro ex|refine Z5 ?_|(refine A9 ?_ ?_;exact ⟨by kernel_rfl,by decide⟩)|refine A8 ?_ ?_|exact A7|refine A6 ?_ ?_|exact A5|(refine A0 ?_ ?_ ?_;kernel_rfl;kernel_rfl)) <;> (try (conv=>whnf)))
  all_goals first
   | exact p6 rfl rfl rfl
   | (exfalso;omega)
 rw [if_neg h1]
 have ri:=fun (n:Int) (h:-1000000000000000 < n) (h2:n < 1000000000000000)=>G7 n (by omega) (by omega)
 refine F3 Tryz.func47 53 fun hrd E h0=>?_
 clear hrd
 repeat' ((first | refine B2 r1 ?_ |refine A4 ?_|refine S1 ?_|refine Z1 ?_|refine Z2 ?_|(refine And.intro ?_ ?_<;>intro h<;>try first|(exfalso;omega)|exact absurd rfl h)|refine Z3 ?_|refine Z4 ?_|intro el hel hbB|intro el hel|intro ex|refine Z5 ?_|(refine A9 ?_ ?_;exact ⟨by kernel_rfl,by decide⟩)|refine A8 ?_ ?_|exact A7|refine A6 ?_ ?_|exact A5|(refine A0 ?_ ?_ ?_;kernel_rfl;kernel_rfl)) <;> (try (conv=>whnf)))
 all_goals first
  | (exfalso;omega)
  | skip
 refine C2 (ι:=Nat) (fun k=>⟨[(0, .str z),(4, .str d),(5, .i (d8 (d.take k))),(6, .i k)],0,[]⟩) (fun k=>k ≤ d.length ∧ (d.take k).all U9 = true) (fun k=>d.length - k) 0 ⟨Nat.zero_le _,rfl⟩ (B0 h0 rfl ⟨rfl,rfl,rfl,rfl,trivial⟩ trivial rfl rfl rfl) (fun k hI=>?_)
 obtain ⟨hk,hI⟩:=hI
 have hb:=h15 _ hI (by rw [List.length_take];omega)
 by_cases hlt:k < d.length
 ·obtain ⟨b,hbk⟩:∃ b,d[k]? = some b:=⟨_,List.getElem?_eq_getElem hlt⟩
  have hsn:d8 (d.take (k + 1)) = 10 * d8 (d.take k) + (b.toNat - 48):=by rw [Q2 hbk,Eu]
  by_cases hd:48 ≤ b.toNat ∧ b.toNat ≤ 57
  ·have hst:=WR hI hbk (RR hd.1 hd.2)
   clear h15 ri
   generalize d8 (d.take k) = n at *
   have hwd:=WS hd.1 hd.2
   repeat' (first | ((first | (refine k8 (x:=b) hbk (by omega) ?_) |refine A4 ?_|refine S1 ?_|refine Z1 ?_|refine Z2 ?_|(refine And.intro ?_ ?_<;>intro h<;>try first|(exfalso;omega)|exact absurd rfl h)|refine Z3 ?_|refine Z4 ?_|intro el hel hbB|intro el hel|intro ex|refine Z5 ?_|(refine A9 ?_ ?_;exact ⟨by kernel_rfl,by decide⟩)|refine A8 ?_ ?_|exact A7|refine A6 ?_ ?_|exact A5|(refine A0 ?_ ?_ ?_;kernel_rfl;kernel_rfl)) <;> (try (conv=>whnf))) | rw [hwd])
   all_goals first
    | exact ⟨k + 1,⟨by omega,hst⟩,by omega,B0 h0 rfl ⟨rfl,rfl,congrArg (fun z:Int=>some (AV.i z)) (by rw [hsn];omega),rfl,trivial⟩ trivial rfl rfl rfl⟩
    | (exfalso;omega)
  ·have hno:=YL hbk (decide_eq_false hd)
   rw [if_neg hno]
   repeat' ((first | (refine k8 (x:=b) hbk (by omega) ?_) |refine A4 ?_|refine S1 ?_|refine Z1 ?_|refine Z2 ?_|(refine And.intro ?_ ?_<;>intro h<;>try first|(exfalso;omega)|exact absurd rfl h)|refine Z3 ?_|refine Z4 ?_|intro el hel hbB|intro el hel|intro ex|refine Z5 ?_|(refine A9 ?_ ?_;exact ⟨by kernel_rfl,by decide⟩)|refine A8 ?_ ?_|exact A7|refine A6 ?_ ?_|exact A5|(refine A0 ?_ ?_ ?_;kernel_rfl;kernel_rfl)) <;> (try (conv=>whnf)))
   all_goals first
    | exact p6 rfl rfl rfl
    | (exfalso;omega)
 ·obtain rfl:k = d.length:=by omega
  rw [List.take_length] at *
  rw [if_pos hI]
  have r2:=ri (d8 d) (by omega) (by omega)
  have r3:=ri (-(d8 d:Int)) (by omega) (by omega)
  clear h15 ri
  generalize d8 d = n at *
  repeat' ((first | refine B2 r2 ?_ | refine B2 r3 ?_ |refine A4 ?_|refine S1 ?_|refine Z1 ?_|refine Z2 ?_|(refine And.intro ?_ ?_<;>intro h<;>try first|(exfalso;omega)|exact absurd rfl h)|refine Z3 ?_|refine Z4 ?_|intro el hel hbB|intro el hel|intro ex|refine Z5 ?_|(refine A9 ?_ ?_;exact ⟨by kernel_rfl,by decide⟩)|refine A8 ?_ ?_|exact A7|refine A6 ?_ ?_|exact A5|(refine A0 ?_ ?_ ?_;kernel_rfl;kernel_rfl)) <;> (try (conv=>whnf)))
  all_goals first
   | (rw [if_pos (by omega)];exact p6 rfl rfl rfl)
   | (rw [if_neg (by omega)];exact p6 rfl rfl rfl)
   | (exfalso;omega)
end Go.Proofs.YtiphlhoclaogjabGreatDoor
