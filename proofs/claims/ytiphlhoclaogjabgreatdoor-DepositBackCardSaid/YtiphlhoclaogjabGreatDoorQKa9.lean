/- Chapter 3: the reference's check of rows. -/
import Derived.Test.YtiphlhoclaogjabGreatDoorQKa7
import Derived.Test.YtiphlhoclaogjabGreatDoorQB10
set_option linter.unusedVariables false
set_option linter.unnecessarySimpa false
set_option linter.unusedSimpArgs false
namespace Go.Proofs.YtiphlhoclaogjabGreatDoor
open Go Go.Av
attribute [local irreducible] D1 B5 D5 D3 DQ D7 E0 St.le B3 B6
set_option maxRecDepth 100000
def r9 (s:B8) (rows:List (List Int)):Int :=
 if ¬ F8 s = 0 then F8 s else if 200 < rows.length then 1 else if (rows.any fun r=>!I4 s r) = true then 9 else if ¬ (F6 rows).Nodup then 10 else 0
theorem Wx {s:B8} {rows:List (List Int)} {r:List Int} (h:r ∈ rows) (hf:I4 s r = false):(rows.any fun r=>!I4 s r) = true:=List.any_eq_true.2 ⟨r,h,by simp [hf]⟩
theorem Ud {s:B8} {rows:List (List Int)} (h:∀ r ∈ rows.take rows.length,I4 s r = true):(rows.any fun r=>!I4 s r) = false:=by
 rw [List.take_length] at h
 exact List.any_eq_false.2 fun r hr=>by simp [h r hr]
theorem Rw {α:Type} {l:List α} {p:α → Prop} {k:Nat} {x:α} (h:∀ y ∈ l.take k,p y) (hx:l[k]? = some x) (hp:p x):∀ y ∈ l.take (k + 1),p y:=by
 rw [R9 hx]
 intro y hy
 rcases List.mem_append.1 hy with h1 | h1
 ·exact h y h1
 ·rw [List.mem_singleton.1 h1];exact hp
set_option maxHeartbeats 16000000 in
theorem MZ (s:B8) (rows:List (List Int)):B3 Tryz.prog 34 [sA s, .sl 1 (rows.map D8)] (.i (r9 s rows)):=by
 have hsch:=Eu s
 have hrow:=fun (r:List Int)=>Rv s r
 unfold r9
 by_cases hr:F8 s = 0
 ·rw [if_neg (by simp [hr])]
  have hre:∀ r,Cg s r = if I4 s r = true then 0 else 9:=fun r=>(by unfold Cg;rw [if_pos hr])
  rw [hr] at hsch
  generalize hG:(if 200 < rows.length then (1:Int) else if (rows.any fun r=>!I4 s r) = true then 9 else if ¬ (F6 rows).Nodup then 10 else 0) = G
  by_cases hn:200 < rows.length
  ·rw [if_pos hn] at hG
   subst hG
   refine F3 Tryz.func34 57 fun hrd E h0=>?_
   clear hrd
   repeat' ((first | refine A9 hsch ?_ |refine A1 ?_|refine S1 ?_|refine Z1 ?_|refine Z2 ?_|(refine And.intro ?_ ?_<;>intro h<;>try first|(exfalso;omega)|exact absurd rfl h)|refine Z3 ?_|refine Z4 ?_|intro el hel hbB|intro el hel|intro ex|refine Z5 ?_|(refine A6 ?_ ?_;exact ⟨by kernel_rfl,by decide⟩)|refine A5 ?_ ?_|exact A4|refine A3 ?_ ?_|exact A2|(refine A0 ?_ ?_ ?_;kernel_rfl;kernel_rfl)) <;> (try (conv=>whnf)))
   all_goals first
    | (exfalso;omega)
    | exact B2 rfl rfl
  ·rw [if_neg hn] at hG
   have hcn:=FT hr
   have hone:∀ r,I4 s r = true → ∃ x r1,r = x :: r1:=fun r h=>by
    have h2:=(r8 h).1
    cases r with
    | nil=>exact absurd (List.eq_nil_of_length_eq_zero h2.symm) hcn
    | cons x r1=>exact ⟨x,r1,rfl⟩
   refine F3 Tryz.func34 57 fun hrd E h0=>?_
   clear hrd
   repeat' ((first | refine A9 hsch ?_ |refine A1 ?_|refine S1 ?_|refine Z1 ?_|refine Z2 ?_|(refine And.intro ?_ ?_<;>intro h<;>try first|(exfalso;omega)|exact absurd rfl h)|refine Z3 ?_|refine Z4 ?_|intro el hel hbB|intro el hel|intro ex|refine Z5 ?_|(refine A6 ?_ ?_;exact ⟨by kernel_rfl,by decide⟩)|refine A5 ?_ ?_|exact A4|refine A3 ?_ ?_|exact A2|(refine A0 ?_ ?_ ?_;kernel_rfl;kernel_rfl)) <;> (try (conv=>whnf)))
   all_goals first
    | (exfalso;omega)
    | skip
   refine C5 (ι:=Nat) (fun k=>⟨[(1, .sl 1 (rows.map D8)),(2, .ref 0 0),(6, .i k)],1,[(0,some (.box (sL s)))]⟩) (fun k=>k ≤ rows.length ∧ ∀ r ∈ rows.take k,I4 s r = true) (fun k=>rows.length - k) 0 ⟨Nat.zero_le _,fun r h=>by simp at h⟩
    (A8 h0 rfl ⟨rfl,rfl,rfl,trivial⟩ ⟨rfl,trivial⟩ rfl rfl rfl) (fun k hI=>?_)
   obtain ⟨hk,hI⟩:=hI
   by_cases hlt:k < rows.length
   ·obtain ⟨r,hrk⟩:∃ r,rows[k]? = some r:=⟨_,List.getElem?_eq_getElem hlt⟩
    have hq:=hrow r
    rw [hre] at hq
    by_cases hf:I4 s r = true
    ·rw [if_pos hf] at hq
     have hst:=Rw hI hrk hf
     repeat' ((first | (refine A7 (x:=r) hrk (by omega) ?_) | refine A9 hq ?_ |refine A1 ?_|refine S1 ?_|refine Z1 ?_|refine Z2 ?_|(refine And.intro ?_ ?_<;>intro h<;>try first|(exfalso;omega)|exact absurd rfl h)|refine Z3 ?_|refine Z4 ?_|intro el hel hbB|intro el hel|intro ex|refine Z5 ?_|(refine A6 ?_ ?_;exact ⟨by kernel_rfl,by decide⟩)|refine A5 ?_ ?_|exact A4|refine A3 ?_ ?_|exact A2|(refine A0 ?_ ?_ ?_;kernel_rfl;kernel_rfl)) <;> (try (conv=>whnf)))
     all_goals first
      | (exfalso;omega)
      | exact ⟨k + 1,⟨by omega,hst⟩,by omega,A8 h0 rfl ⟨rfl,rfl,rfl,trivial⟩ ⟨rfl,trivial⟩ rfl rfl rfl⟩
    ·rw [if_neg hf] at hq
     rw [if_pos (Wx (List.mem_of_getElem? hrk) (by simpa using hf))] at hG
     subst hG
     repeat' ((first | (refine A7 (x:=r) hrk (by omega) ?_) | refine A9 hq ?_ |refine A1 ?_|refine S1 ?_|refine Z1 ?_|refine Z2 ?_|(refine And.intro ?_ ?_<;>intro h<;>try first|(exfalso;omega)|exact absurd rfl h)|refine Z3 ?_|refine Z4 ?_|intro el hel hbB|intro el hel|intro ex|refine Z5 ?_|(refine A6 ?_ ?_;exact ⟨by kernel_rfl,by decide⟩)|refine A5 ?_ ?_|exact A4|refine A3 ?_ ?_|exact A2|(refine A0 ?_ ?_ ?_;kernel_rfl;kernel_rfl)) <;> (try (conv=>whnf)))
     all_goals first
      | (exfalso;omega)
      | exact B2 rfl rfl
   ·obtain rfl:k = rows.length:=by omega
    rw [if_neg (by rw [Ud hI];simp)] at hG
    rw [List.take_length] at hI
    have hone:∀ r ∈ rows, ∃ x r1,r = x :: r1:=fun r h=>hone r (hI r h)
    clear hrow hre hsch hcn hI
    repeat' ((first|refine A1 ?_|refine S1 ?_|refine Z1 ?_|refine Z2 ?_|(refine And.intro ?_ ?_<;>intro h<;>try first|(exfalso;omega)|exact absurd rfl h)|refine Z3 ?_|refine Z4 ?_|intro el hel hbB|intro el hel|intro ex|refine Z5 ?_|(refine A6 ?_ ?_;exact ⟨by kernel_rfl,by decide⟩)|refine A5 ?_ ?_|exact A4|refine A3 ?_ ?_|exact A2|(refine A0 ?_ ?_ ?_;kernel_rfl;kernel_rfl)) <;> (try (conv=>whnf)))
    all_goals first
     | (exfalso;omega)
     | skip
    refine C5 (ι:=Nat) (fun k=>⟨[(1, .sl 1 (rows.map D8)),(8, .i k)],1,[]⟩) (fun k=>k ≤ rows.length ∧ ((F6 rows).take k).Nodup) (fun k=>rows.length - k) 0 ⟨Nat.zero_le _,by simp⟩
     (A8 h0 rfl ⟨rfl,rfl,trivial⟩ trivial rfl rfl rfl) (fun k hI=>?_)
    obtain ⟨hk,hI⟩:=hI
    by_cases hlt:k < rows.length
    ·obtain ⟨r,hrk⟩:∃ r,rows[k]? = some r:=⟨_,List.getElem?_eq_getElem hlt⟩
     obtain ⟨x,r1,rfl⟩:=hone r (List.mem_of_getElem? hrk)
     have hhs:=Dm hrk
     have hx0:(x :: r1)[(0:Int).toNat]? = some x:=rfl
     repeat' ((first|refine A1 ?_|refine S1 ?_|refine Z1 ?_|refine Z2 ?_|(refine And.intro ?_ ?_<;>intro h<;>try first|(exfalso;omega)|exact absurd rfl h)|refine Z3 ?_|refine Z4 ?_|intro el hel hbB|intro el hel|intro ex|refine Z5 ?_|(refine A6 ?_ ?_;exact ⟨by kernel_rfl,by decide⟩)|refine A5 ?_ ?_|exact A4|refine A3 ?_ ?_|exact A2|(refine A0 ?_ ?_ ?_;kernel_rfl;kernel_rfl)) <;> (try (conv=>whnf)))
     all_goals first
      | (exfalso;omega)
      | skip
     refine C5 (ι:=Nat) (fun j=>⟨[(1, .sl 1 (rows.map D8)),(8, .i k),(9, .i j)],1,[]⟩) (fun j=>j ≤ k ∧ x ∉ (F6 rows).take j) (fun j=>k - j) 0 ⟨Nat.zero_le _,by simp⟩
      (A8 h0 rfl ⟨rfl,rfl,rfl,trivial⟩ trivial rfl rfl rfl) (fun j hJ=>?_)
     obtain ⟨hj,hJ⟩:=hJ
     by_cases hjt:j < k
     ·obtain ⟨q,hqj⟩:∃ q,rows[j]? = some q:=⟨_,List.getElem?_eq_getElem (by omega)⟩
      obtain ⟨y,q1,rfl⟩:=hone q (List.mem_of_getElem? hqj)
      have hhj:=Dm hqj
      have hy0:(y :: q1)[(0:Int).toNat]? = some y:=rfl
      have hst:¬ x = y → x ∉ (F6 rows).take (j + 1):=fun h hm=>by
       rw [R9 hhj] at hm
       rcases List.mem_append.1 hm with h1 | h1
       ·exact hJ h1
       ·exact h (List.mem_singleton.1 h1)
      have hhit:x = y → G = 10:=fun h=>by
       rw [← hG,if_pos]
       refine Jx hhs (List.mem_iff_getElem?.2 ⟨j,?_⟩)
       rw [List.getElem?_take,if_pos hjt,hhj,h]
      repeat' ((first | (refine A7 (x:=x :: r1) hrk (by omega) ?_) | (refine A7 (x:=y :: q1) hqj (by omega) ?_) | (refine A7 (x:=x) hx0 (by omega) ?_) | (refine A7 (x:=y) hy0 (by omega) ?_) |refine A1 ?_|refine S1 ?_|refine Z1 ?_|refine Z2 ?_|(refine And.intro ?_ ?_<;>intro h<;>try first|(exfalso;omega)|exact absurd rfl h)|refine Z3 ?_|refine Z4 ?_|intro el hel hbB|intro el hel|intro ex|refine Z5 ?_|(refine A6 ?_ ?_;exact ⟨by kernel_rfl,by decide⟩)|refine A5 ?_ ?_|exact A4|refine A3 ?_ ?_|exact A2|(refine A0 ?_ ?_ ?_;kernel_rfl;kernel_rfl)) <;> (try (conv=>whnf)))
      all_goals first
       | (exfalso;omega)
       | (rw [hhit (by assumption)];exact B2 rfl rfl)
       | exact ⟨j + 1,⟨by omega,hst (by assumption)⟩,by omega,A8 h0 rfl ⟨rfl,rfl,rfl,trivial⟩ trivial rfl rfl rfl⟩
     ·obtain rfl:j = k:=by omega
      have hst:=ID hI hJ
      rw [← R9 hhs] at hst
      repeat' ((first|refine A1 ?_|refine S1 ?_|refine Z1 ?_|refine Z2 ?_|(refine And.intro ?_ ?_<;>intro h<;>try first|(exfalso;omega)|exact absurd rfl h)|refine Z3 ?_|refine Z4 ?_|intro el hel hbB|intro el hel|intro ex|refine Z5 ?_|(refine A6 ?_ ?_;exact ⟨by kernel_rfl,by decide⟩)|refine A5 ?_ ?_|exact A4|refine A3 ?_ ?_|exact A2|(refine A0 ?_ ?_ ?_;kernel_rfl;kernel_rfl)) <;> (try (conv=>whnf)))
      all_goals first
       | (exfalso;omega)
       | exact ⟨j + 1,⟨by omega,hst⟩,by omega,A8 h0 rfl ⟨rfl,rfl,trivial⟩ trivial rfl rfl rfl⟩
    ·obtain rfl:k = rows.length:=by omega
     rw [List.take_of_length_le (by simp)] at hI
     rw [if_neg (fun h=>h hI)] at hG
     subst hG
     repeat' ((first|refine A1 ?_|refine S1 ?_|refine Z1 ?_|refine Z2 ?_|(refine And.intro ?_ ?_<;>intro h<;>try first|(exfalso;omega)|exact absurd rfl h)|refine Z3 ?_|refine Z4 ?_|intro el hel hbB|intro el hel|intro ex|refine Z5 ?_|(refine A6 ?_ ?_;exact ⟨by kernel_rfl,by decide⟩)|refine A5 ?_ ?_|exact A4|refine A3 ?_ ?_|exact A2|(refine A0 ?_ ?_ ?_;kernel_rfl;kernel_rfl)) <;> (try (conv=>whnf)))
     all_goals first
      | (exfalso;omega)
      | exact B2 rfl rfl
 ·rw [if_pos hr]
  generalize F8 s = e at *
  refine F3 Tryz.func34 57 fun hrd E h0=>?_
  clear hrd
  repeat' ((first | refine A9 hsch ?_ |refine A1 ?_|refine S1 ?_|refine Z1 ?_|refine Z2 ?_|(refine And.intro ?_ ?_<;>intro h<;>try first|(exfalso;omega)|exact absurd rfl h)|refine Z3 ?_|refine Z4 ?_|intro el hel hbB|intro el hel|intro ex|refine Z5 ?_|(refine A6 ?_ ?_;exact ⟨by kernel_rfl,by decide⟩)|refine A5 ?_ ?_|exact A4|refine A3 ?_ ?_|exact A2|(refine A0 ?_ ?_ ?_;kernel_rfl;kernel_rfl)) <;> (try (conv=>whnf)))
  all_goals first
   | (exfalso;omega)
   | exact B2 rfl rfl
end Go.Proofs.YtiphlhoclaogjabGreatDoor
namespace Go.Proofs.YtiphlhoclaogjabGreatDoor
open Go Go.Av
attribute [local irreducible] D1 B5 D5 D3 DQ D7 E0 St.le B3 B6
set_option maxRecDepth 100000
theorem IE {ws:List (List UInt8)} {w:List UInt8} (h:ws ≠ []):Lib.join (ws ++ [w]) [32] = Lib.join ws [32] ++ ([32] ++ w):=by
 cases ws with
 | nil=>exact absurd rfl h
 | cons x r=>simp [Lib.join_cons,Lib.joinTail]
set_option maxHeartbeats 8000000 in
theorem KS (s:B8) (hr:F8 s = 0) (c:C1) (hcm:c ∈ s.cols):B3 Tryz.prog 35 [Y3 c] (.str (Lib.join (C3 c) [32])):=by
 obtain ⟨hn16,b2,b3⟩:=y9 hr hcm
 have h6:=(F7 hr).1
 obtain ⟨k,hk⟩:=List.mem_iff_getElem?.1 hcm
 have hkc:=Hz hr hk
 rcases hkc with ⟨hk1,_⟩ | ⟨hk2,_⟩ | ⟨hk3,_⟩
 ·have hcw:Lib.join (C3 c) [32] = [105,100,32] ++ c.name:=by unfold C3;rw [if_pos hk1];simp [Lib.join_cons,Lib.joinTail]
  rw [hcw]
  refine F3 Tryz.func35 58 fun hrd E h0=>?_
  clear hrd
  repeat' ((first | (refine G7 ?_ ?_;(simp only [List.length_append,List.length_cons,List.length_nil];omega)) |refine A1 ?_|refine S1 ?_|refine Z1 ?_|refine Z2 ?_|(refine And.intro ?_ ?_<;>intro h<;>try first|(exfalso;omega)|exact absurd rfl h)|refine Z3 ?_|refine Z4 ?_|intro el hel hbB|intro el hel|intro ex|refine Z5 ?_|(refine A6 ?_ ?_;exact ⟨by kernel_rfl,by decide⟩)|refine A5 ?_ ?_|exact A4|refine A3 ?_ ?_|exact A2|(refine A0 ?_ ?_ ?_;kernel_rfl;kernel_rfl)) <;> (try (conv=>whnf)))
  all_goals first
   | (exfalso;omega)
   | exact B2 rfl rfl
 ·have hls:=b2 hk2
  have hit:=G5 c.lst (by omega) (by omega)
  have hil:=Lib.itoa_length_le c.lst (by omega) (by omega)
  have hcw:Lib.join (C3 c) [32] = [99,111,100,101,100,32] ++ c.name ++ [32] ++ Lib.itoa c.lst:=by unfold C3;rw [if_neg (by omega),if_pos hk2];simp [Lib.join_cons,Lib.joinTail]
  rw [hcw]
  generalize Lib.itoa c.lst = ip at *
  refine F3 Tryz.func35 58 fun hrd E h0=>?_
  clear hrd
  repeat' ((first | (refine G7 ?_ ?_;(simp only [List.length_append,List.length_cons,List.length_nil];omega)) | refine A9 hit ?_ | (refine G3 ?_ ?_;kernel_rfl) |refine A1 ?_|refine S1 ?_|refine Z1 ?_|refine Z2 ?_|(refine And.intro ?_ ?_<;>intro h<;>try first|(exfalso;omega)|exact absurd rfl h)|refine Z3 ?_|refine Z4 ?_|intro el hel hbB|intro el hel|intro ex|refine Z5 ?_|(refine A6 ?_ ?_;exact ⟨by kernel_rfl,by decide⟩)|refine A5 ?_ ?_|exact A4|refine A3 ?_ ?_|exact A2|(refine A0 ?_ ?_ ?_;kernel_rfl;kernel_rfl)) <;> (try (conv=>whnf)))
  all_goals first
   | (exfalso;omega)
   | exact B2 rfl rfl
 ·obtain ⟨m1,m2,m3,m4,m5,m6⟩:=a6 (b3 (by omega) (by omega))
  have hwb:=Ap m6
  have hi1:=G5 c.low (by omega) (by omega)
  have hi2:=G5 c.high (by omega) (by omega)
  have hl1:=Lib.itoa_length_le c.low (by omega) (by omega)
  have hl2:=Lib.itoa_length_le c.high (by omega) (by omega)
  have hcw:C3 c = [I5,c.name,Lib.itoa c.low,Lib.itoa c.high,if c.opt = true then G2 else F5] ++ c.widths.map Lib.itoa:=by unfold C3;rw [if_neg (by omega),if_neg (by omega)];rfl
  rw [hcw]
  clear hcw
  have hj:∀ k ≤ c.widths.length,(Lib.join ([I5,c.name,Lib.itoa c.low,Lib.itoa c.high,if c.opt = true then G2 else F5] ++ (c.widths.take k).map Lib.itoa) [32]).length ≤ 9 * 22:=fun k hk=>by
   have h1:=W9 ([I5,c.name,Lib.itoa c.low,Lib.itoa c.high,if c.opt = true then G2 else F5] ++ (c.widths.take k).map Lib.itoa) 21 (fun w hw=>by
    simp only [List.mem_append,List.mem_cons,List.not_mem_nil,or_false,List.mem_map] at hw
    rcases hw with (rfl | rfl | rfl | rfl | rfl) | ⟨x,hx,rfl⟩
    ·decide
    ·omega
    ·exact hl1
    ·exact hl2
    ·split <;> decide
    ·have:=hwb x (List.mem_of_mem_take hx)
     exact Lib.itoa_length_le x (by omega) (by omega))
   simp only [List.length_append,List.length_cons,List.length_nil,List.length_map,List.length_take] at h1
   refine Nat.le_trans h1 ?_
   omega
  generalize Lib.itoa c.low = i1 at *
  generalize Lib.itoa c.high = i2 at *
  generalize hW:([I5,c.name,i1,i2,if c.opt = true then G2 else F5]:List (List UInt8)) = W at *
  have hWn:W ≠ []:=by rw [← hW];simp
  have hW0:Lib.join W [32] = [109,101,97,115,117,114,101,32] ++ c.name ++ [32] ++ i1 ++ [32] ++ i2 ++ (if c.opt = true then [32,109,97,121] else [32,110,101,101,100]):=by
   rw [← hW]
   cases c.opt <;> simp [Lib.join_cons,Lib.joinTail]
  refine F3 Tryz.func35 58 fun hrd E h0=>?_
  clear hrd
  repeat' ((first | (refine G7 ?_ ?_;(simp only [List.length_append,List.length_cons,List.length_nil];omega)) | refine A9 hi1 ?_ | refine A9 hi2 ?_ | (refine G3 ?_ ?_;kernel_rfl) |refine A1 ?_|refine S1 ?_|refine Z1 ?_|refine Z2 ?_|(refine And.intro ?_ ?_<;>intro h<;>try first|(exfalso;omega)|exact absurd rfl h)|refine Z3 ?_|refine Z4 ?_|intro el hel hbB|intro el hel|intro ex|refine Z5 ?_|(refine A6 ?_ ?_;exact ⟨by kernel_rfl,by decide⟩)|refine A5 ?_ ?_|exact A4|refine A3 ?_ ?_|exact A2|(refine A0 ?_ ?_ ?_;kernel_rfl;kernel_rfl)) <;> (try (conv=>whnf)))
  all_goals first
   | (exfalso;omega)
   | skip
  all_goals refine C5 (ι:=Nat) (fun j=>⟨[(1, .ref 0 0),(3, .str (Lib.join (W ++ (c.widths.take j).map Lib.itoa) [32])),(4, .i j)],1,[(0,some (.box (C2 c)))]⟩) (fun j=>j ≤ c.widths.length) (fun j=>c.widths.length - j) 0 (Nat.zero_le _) (A8 h0 rfl ⟨rfl,congrArg (fun z=>some (AV.str z)) (by rw [List.take_zero,List.map_nil,List.append_nil,hW0,h];rfl),rfl,trivial⟩ ⟨rfl,trivial⟩ rfl rfl rfl) (fun j hjl=>?_)
  all_goals (
   by_cases hjt:j < c.widths.length
   ·obtain ⟨w,hww⟩:∃ w,c.widths[j]? = some w:=⟨_,List.getElem?_eq_getElem hjt⟩
    have hwb:=hwb w (List.mem_of_getElem? hww)
    have hit:=G5 w (by omega) (by omega)
    have hil:=Lib.itoa_length_le w (by omega) (by omega)
    have hjj:=hj j hjl
    have htk:Lib.join (W ++ (c.widths.take (j + 1)).map Lib.itoa) [32] = Lib.join (W ++ (c.widths.take j).map Lib.itoa) [32] ++ ([32] ++ Lib.itoa w):=by
     rw [R9 hww,List.map_append, ← List.append_assoc]
     exact IE (fun e=>hWn (List.append_eq_nil_iff.1 e).1)
    generalize Lib.itoa w = iw at *
    generalize Lib.join (W ++ (c.widths.take j).map Lib.itoa) [32] = V at *
    repeat' ((first | (refine G7 ?_ ?_;(simp only [List.length_append,List.length_cons,List.length_nil];omega)) | (refine A7 (x:=w) hww (by omega) ?_) | refine A9 hit ?_ | (refine G3 ?_ ?_;kernel_rfl) |refine A1 ?_|refine S1 ?_|refine Z1 ?_|refine Z2 ?_|(refine And.intro ?_ ?_<;>intro h<;>try first|(exfalso;omega)|exact absurd rfl h)|refine Z3 ?_|refine Z4 ?_|intro el hel hbB|intro el hel|intro ex|refine Z5 ?_|(refine A6 ?_ ?_;exact ⟨by kernel_rfl,by decide⟩)|refine A5 ?_ ?_|exact A4|refine A3 ?_ ?_|exact A2|(refine A0 ?_ ?_ ?_;kernel_rfl;kernel_rfl)) <;> (try (conv=>whnf)))
    all_goals first
     | (exfalso;omega)
     | exact ⟨j + 1,by omega,by omega,A8 h0 rfl ⟨rfl,congrArg (fun z=>some (AV.str z)) htk.symm,rfl,trivial⟩ ⟨rfl,trivial⟩ rfl rfl rfl⟩
   ·obtain rfl:j = c.widths.length:=by omega
    rw [List.take_length]
    repeat' ((first|refine A1 ?_|refine S1 ?_|refine Z1 ?_|refine Z2 ?_|(refine And.intro ?_ ?_<;>intro h<;>try first|(exfalso;omega)|exact absurd rfl h)|refine Z3 ?_|refine Z4 ?_|intro el hel hbB|intro el hel|intro ex|refine Z5 ?_|(refine A6 ?_ ?_;exact ⟨by kernel_rfl,by decide⟩)|refine A5 ?_ ?_|exact A4|refine A3 ?_ ?_|exact A2|(refine A0 ?_ ?_ ?_;kernel_rfl;kernel_rfl)) <;> (try (conv=>whnf)))
    all_goals first
     | (exfalso;omega)
     | exact B2 rfl rfl
     | trace_state)
end Go.Proofs.YtiphlhoclaogjabGreatDoor
