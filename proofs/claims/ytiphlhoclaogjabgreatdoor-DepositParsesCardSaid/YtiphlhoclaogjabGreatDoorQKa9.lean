/- Chapter 2: the reference's rows, names, coarse values. Chapter 2: the reference's leaves, blocks, and values that can be. -/
import Derived.Test.YtiphlhoclaogjabGreatDoorQB9
import Derived.Test.YtiphlhoclaogjabGreatDoorQB8
import Derived.Test.YtiphlhoclaogjabGreatDoorQKa6
set_option linter.unusedVariables false
set_option linter.unnecessarySimpa false
set_option linter.unusedSimpArgs false
namespace Go.Proofs.YtiphlhoclaogjabGreatDoor
open Go Go.Av
attribute [local irreducible] D6 B8 D8 D7 DQ E0 E1 St.le B4 B9
set_option maxRecDepth 100000
set_option maxHeartbeats 4000000 in
theorem Ra (s:C4) (row:List Int):B4 Tryz.prog 64 [sA s, .sl 1 (row.map wA)] (.i (Ce s row)):=by
 refine F3 Tryz.func64 32 fun hrd E h0=>?_
 have hlen:row.length ≤ 9223372036854775807:=by have:=(hrd (.sl 1 (row.map wA)) (by simp)).sl;simpa using this
 clear hrd
 repeat' ((first | refine B2 (Ez s) ?_ |refine A4 ?_|refine S1 ?_|refine Z1 ?_|refine Z2 ?_|(refine And.intro ?_ ?_<;>intro h<;>try first|(exfalso;omega)|exact absurd rfl h)|refine Z3 ?_|refine Z4 ?_|intro el hel hbB|intro el hel|intro ex|refine Z5 ?_|(refine A9 ?_ ?_;exact ⟨by kernel_rfl,by decide⟩)|refine A8 ?_ ?_|exact A7|refine A6 ?_ ?_|exact A5|(refine A0 ?_ ?_ ?_;kernel_rfl;kernel_rfl)) <;> (try (conv=>whnf)))
 all_goals first
  | exact B5 rfl (congrArg AV.i (by rw [Ce,if_neg (by assumption)]))
  | exact B5 rfl (congrArg AV.i (by rw [Ce,if_pos (Classical.byContradiction (by assumption)),if_neg];unfold J8;rw [decide_eq_false (by omega)];exact Bool.false_ne_true))
  | skip
 have hr:H6 s = 0:=Classical.byContradiction (by assumption)
 have hz:(s.cols.zip row).length = row.length:=by rw [List.length_zip];omega
 have hfb:Ce s row = if (!((s.cols.zip row).any (w9 s))) = true then 0 else 9:=by rw [Ce,if_pos hr,J8,decide_eq_true (by omega),Bool.true_and]
 rw [hfb]
 refine C2 (ι:=Nat) (fun k=>⟨[(1, .sl 1 (row.map wA)),(2, .ref 0 0),(6, .i k)],1,[(0,some (.box (sL s)))]⟩) (fun k=>V8 (w9 s) (s.cols.zip row) k) (fun k=>row.length - k) 0 (V8.zero _ _) (B0 h0 rfl ⟨rfl,rfl,rfl,trivial⟩ ⟨rfl,trivial⟩ rfl rfl rfl) (fun k hI=>?_)
 have hk:=hI.1
 have hfit:=fun (v:Int) (hk:(k:Int) < row.length)=>NI s k v hr (c:=s.cols[k]'(by omega)) (by omega) (by rw [Int.toNat_natCast];exact List.getElem?_eq_getElem (by omega))
 repeat' ((first | refine B2 (hfit _ (by assumption)) ?_ | (refine E3 ?_ ?_;kernel_rfl) |refine A4 ?_|refine S1 ?_|refine Z1 ?_|refine Z2 ?_|(refine And.intro ?_ ?_<;>intro h<;>try first|(exfalso;omega)|exact absurd rfl h)|refine Z3 ?_|refine Z4 ?_|intro el hel hbB|intro el hel|intro ex|refine Z5 ?_|(refine A9 ?_ ?_;exact ⟨by kernel_rfl,by decide⟩)|refine A8 ?_ ?_|exact A7|refine A6 ?_ ?_|exact A5|(refine A0 ?_ ?_ ?_;kernel_rfl;kernel_rfl)) <;> (try (conv=>whnf)))
 all_goals first
  | (refine B5 rfl (congrArg AV.i ?_)
     rw [← hI.hit (BS (List.getElem?_eq_getElem (by omega)) hel) (by simp only [w9, *];rfl)];rfl)
  | exact ⟨k + 1,hI.step (BS (List.getElem?_eq_getElem (by omega)) hel) (by simp only [w9, *];rfl),by omega,B0 h0 rfl ⟨rfl,rfl,rfl,trivial⟩ ⟨rfl,trivial⟩ rfl rfl rfl⟩
  | (refine B5 rfl (congrArg AV.i ?_)
     rw [← hI.done (by omega)];rfl)
end Go.Proofs.YtiphlhoclaogjabGreatDoor
namespace Go.Proofs.YtiphlhoclaogjabGreatDoor
open Go Go.Av
attribute [local irreducible] D6 B8 D8 D7 DQ E0 E1 St.le B4 B9
set_option maxRecDepth 100000
end Go.Proofs.YtiphlhoclaogjabGreatDoor
namespace Go.Proofs.YtiphlhoclaogjabGreatDoor
open Go Go.Av
attribute [local irreducible] D6 B8 D8 D7 DQ E0 E1 St.le B4 B9
set_option maxRecDepth 100000
def Bo (s:C4) (rows:List (List Int)):Int :=
 if ¬ H6 s = 0 then H6 s else if 200 < rows.length then 1 else if (rows.any fun r=>!J8 s r) = true then 9 else if ¬ (G3 rows).Nodup then 10 else 0
theorem WZ {s:C4} {rows:List (List Int)} {r:List Int} (h:r ∈ rows) (hf:J8 s r = false):(rows.any fun r=>!J8 s r) = true:=List.any_eq_true.2 ⟨r,h,by simp [hf]⟩
theorem UD {s:C4} {rows:List (List Int)} (h:∀ r ∈ rows.take rows.length,J8 s r = true):(rows.any fun r=>!J8 s r) = false:=by
 rw [List.take_length] at h
 exact List.any_eq_false.2 fun r hr=>by simp [h r hr]
theorem Rb {α:Type} {l:List α} {p:α → Prop} {k:Nat} {x:α} (h:∀ y ∈ l.take k,p y) (hx:l[k]? = some x) (hp:p x):∀ y ∈ l.take (k + 1),p y:=by
 rw [Q2 hx]
 intro y hy
 rcases List.mem_append.1 hy with h1 | h1
 ·exact h y h1
 ·rw [List.mem_singleton.1 h1];exact hp
set_option maxHeartbeats 16000000 in
theorem MM (s:C4) (rows:List (List Int)):B4 Tryz.prog 34 [sA s, .sl 1 (rows.map D2)] (.i (Bo s rows)):=by
 have hsch:=Ez s
 have hrow:=fun (r:List Int)=>Ra s r
 unfold Bo
 by_cases hr:H6 s = 0
 ·rw [if_neg (by simp [hr])]
  have hre:∀ r,Ce s r = if J8 s r = true then 0 else 9:=fun r=>(by unfold Ce;rw [if_pos hr])
  rw [hr] at hsch
  generalize hG:(if 200 < rows.length then (1:Int) else if (rows.any fun r=>!J8 s r) = true then 9 else if ¬ (G3 rows).Nodup then 10 else 0) = G
  by_cases hn:200 < rows.length
  ·rw [if_pos hn] at hG
   subst hG
   refine F3 Tryz.func34 57 fun hrd E h0=>?_
   clear hrd
   repeat' ((first | refine B2 hsch ?_ |refine A4 ?_|refine S1 ?_|refine Z1 ?_|refine Z2 ?_|(refine And.intro ?_ ?_<;>intro h<;>try first|(exfalso;omega)|exact absurd rfl h)|refine Z3 ?_|refine Z4 ?_|intro el hel hbB|intro el hel|intro ex|refine Z5 ?_|(refine A9 ?_ ?_;exact ⟨by kernel_rfl,by decide⟩)|refine A8 ?_ ?_|exact A7|refine A6 ?_ ?_|exact A5|(refine A0 ?_ ?_ ?_;kernel_rfl;kernel_rfl)) <;> (try (conv=>whnf)))
   all_goals first
    | (exfalso;omega)
    | exact B5 rfl rfl
  ·rw [if_neg hn] at hG
   have hcn:=Fa hr
   have hone:∀ r,J8 s r = true → ∃ x r1,r = x :: r1:=fun r h=>by
    have h2:=(Bn h).1
    cases r with
    | nil=>exact absurd (List.eq_nil_of_length_eq_zero h2.symm) hcn
    | cons x r1=>exact ⟨x,r1,rfl⟩
   refine F3 Tryz.func34 57 fun hrd E h0=>?_
   clear hrd
   repeat' ((first | refine B2 hsch ?_ |refine A4 ?_|refine S1 ?_|refine Z1 ?_|refine Z2 ?_|(refine And.intro ?_ ?_<;>intro h<;>try first|(exfalso;omega)|exact absurd rfl h)|refine Z3 ?_|refine Z4 ?_|intro el hel hbB|intro el hel|intro ex|refine Z5 ?_|(refine A9 ?_ ?_;exact ⟨by kernel_rfl,by decide⟩)|refine A8 ?_ ?_|exact A7|refine A6 ?_ ?_|exact A5|(refine A0 ?_ ?_ ?_;kernel_rfl;kernel_rfl)) <;> (try (conv=>whnf)))
   all_goals first
    | (exfalso;omega)
    | skip
   refine C2 (ι:=Nat) (fun k=>⟨[(1, .sl 1 (rows.map D2)),(2, .ref 0 0),(6, .i k)],1,[(0,some (.box (sL s)))]⟩) (fun k=>k ≤ rows.length ∧ ∀ r ∈ rows.take k,J8 s r = true) (fun k=>rows.length - k) 0 ⟨Nat.zero_le _,fun r h=>by simp at h⟩
    (B0 h0 rfl ⟨rfl,rfl,rfl,trivial⟩ ⟨rfl,trivial⟩ rfl rfl rfl) (fun k hI=>?_)
   obtain ⟨hk,hI⟩:=hI
   by_cases hlt:k < rows.length
   ·obtain ⟨r,hrk⟩:∃ r,rows[k]? = some r:=⟨_,List.getElem?_eq_getElem hlt⟩
    have hq:=hrow r
    rw [hre] at hq
    by_cases hf:J8 s r = true
    ·rw [if_pos hf] at hq
     have hst:=Rb hI hrk hf
     repeat' ((first | (refine A3 (x:=r) hrk (by omega) ?_) | refine B2 hq ?_ |refine A4 ?_|refine S1 ?_|refine Z1 ?_|refine Z2 ?_|(refine And.intro ?_ ?_<;>intro h<;>try first|(exfalso;omega)|exact absurd rfl h)|refine Z3 ?_|refine Z4 ?_|intro el hel hbB|intro el hel|intro ex|refine Z5 ?_|(refine A9 ?_ ?_;exact ⟨by kernel_rfl,by decide⟩)|refine A8 ?_ ?_|exact A7|refine A6 ?_ ?_|exact A5|(refine A0 ?_ ?_ ?_;kernel_rfl;kernel_rfl)) <;> (try (conv=>whnf)))
     all_goals first
      | (exfalso;omega)
      | exact ⟨k + 1,⟨by omega,hst⟩,by omega,B0 h0 rfl ⟨rfl,rfl,rfl,trivial⟩ ⟨rfl,trivial⟩ rfl rfl rfl⟩
    ·rw [if_neg hf] at hq
     rw [if_pos (WZ (List.mem_of_getElem? hrk) (by simpa using hf))] at hG
     subst hG
     repeat' ((first | (refine A3 (x:=r) hrk (by omega) ?_) | refine B2 hq ?_ |refine A4 ?_|refine S1 ?_|refine Z1 ?_|refine Z2 ?_|(refine And.intro ?_ ?_<;>intro h<;>try first|(exfalso;omega)|exact absurd rfl h)|refine Z3 ?_|refine Z4 ?_|intro el hel hbB|intro el hel|intro ex|refine Z5 ?_|(refine A9 ?_ ?_;exact ⟨by kernel_rfl,by decide⟩)|refine A8 ?_ ?_|exact A7|refine A6 ?_ ?_|exact A5|(refine A0 ?_ ?_ ?_;kernel_rfl;kernel_rfl)) <;> (try (conv=>whnf)))
     all_goals first
      | (exfalso;omega)
      | exact B5 rfl rfl
   ·obtain rfl:k = rows.length:=by omega
    rw [if_neg (by rw [UD hI];simp)] at hG
    rw [List.take_length] at hI
    have hone:∀ r ∈ rows, ∃ x r1,r = x :: r1:=fun r h=>hone r (hI r h)
    clear hrow hre hsch hcn hI
    repeat' ((first|refine A4 ?_|refine S1 ?_|refine Z1 ?_|refine Z2 ?_|(refine And.intro ?_ ?_<;>intro h<;>try first|(exfalso;omega)|exact absurd rfl h)|refine Z3 ?_|refine Z4 ?_|intro el hel hbB|intro el hel|intro ex|refine Z5 ?_|(refine A9 ?_ ?_;exact ⟨by kernel_rfl,by decide⟩)|refine A8 ?_ ?_|exact A7|refine A6 ?_ ?_|exact A5|(refine A0 ?_ ?_ ?_;kernel_rfl;kernel_rfl)) <;> (try (conv=>whnf)))
    all_goals first
     | (exfalso;omega)
     | skip
    refine C2 (ι:=Nat) (fun k=>⟨[(1, .sl 1 (rows.map D2)),(8, .i k)],1,[]⟩) (fun k=>k ≤ rows.length ∧ ((G3 rows).take k).Nodup) (fun k=>rows.length - k) 0 ⟨Nat.zero_le _,by simp⟩
     (B0 h0 rfl ⟨rfl,rfl,trivial⟩ trivial rfl rfl rfl) (fun k hI=>?_)
    obtain ⟨hk,hI⟩:=hI
    by_cases hlt:k < rows.length
    ·obtain ⟨r,hrk⟩:∃ r,rows[k]? = some r:=⟨_,List.getElem?_eq_getElem hlt⟩
     obtain ⟨x,r1,rfl⟩:=hone r (List.mem_of_getElem? hrk)
     have hhs:=Do hrk
     have hx0:(x :: r1)[(0:Int).toNat]? = some x:=rfl
     repeat' ((first|refine A4 ?_|refine S1 ?_|refine Z1 ?_|refine Z2 ?_|(refine And.intro ?_ ?_<;>intro h<;>try first|(exfalso;omega)|exact absurd rfl h)|refine Z3 ?_|refine Z4 ?_|intro el hel hbB|intro el hel|intro ex|refine Z5 ?_|(refine A9 ?_ ?_;exact ⟨by kernel_rfl,by decide⟩)|refine A8 ?_ ?_|exact A7|refine A6 ?_ ?_|exact A5|(refine A0 ?_ ?_ ?_;kernel_rfl;kernel_rfl)) <;> (try (conv=>whnf)))
     all_goals first
      | (exfalso;omega)
      | skip
     refine C2 (ι:=Nat) (fun j=>⟨[(1, .sl 1 (rows.map D2)),(8, .i k),(9, .i j)],1,[]⟩) (fun j=>j ≤ k ∧ x ∉ (G3 rows).take j) (fun j=>k - j) 0 ⟨Nat.zero_le _,by simp⟩
      (B0 h0 rfl ⟨rfl,rfl,rfl,trivial⟩ trivial rfl rfl rfl) (fun j hJ=>?_)
     obtain ⟨hj,hJ⟩:=hJ
     by_cases hjt:j < k
     ·obtain ⟨q,hqj⟩:∃ q,rows[j]? = some q:=⟨_,List.getElem?_eq_getElem (by omega)⟩
      obtain ⟨y,q1,rfl⟩:=hone q (List.mem_of_getElem? hqj)
      have hhj:=Do hqj
      have hy0:(y :: q1)[(0:Int).toNat]? = some y:=rfl
      have hst:¬ x = y → x ∉ (G3 rows).take (j + 1):=fun h hm=>by
       rw [Q2 hhj] at hm
       rcases List.mem_append.1 hm with h1 | h1
       ·exact hJ h1
       ·exact h (List.mem_singleton.1 h1)
      have hhit:x = y → G = 10:=fun h=>by
       rw [← hG,if_pos]
       refine Jr hhs (List.mem_iff_getElem?.2 ⟨j,?_⟩)
       rw [List.getElem?_take,if_pos hjt,hhj,h]
      repeat' ((first | (refine A3 (x:=x :: r1) hrk (by omega) ?_) | (refine A3 (x:=y :: q1) hqj (by omega) ?_) | (refine A3 (x:=x) hx0 (by omega) ?_) | (refine A3 (x:=y) hy0 (by omega) ?_) |refine A4 ?_|refine S1 ?_|refine Z1 ?_|refine Z2 ?_|(refine And.intro ?_ ?_<;>intro h<;>try first|(exfalso;omega)|exact absurd rfl h)|refine Z3 ?_|refine Z4 ?_|intro el hel hbB|intro el hel|intro ex|refine Z5 ?_|(refine A9 ?_ ?_;exact ⟨by kernel_rfl,by decide⟩)|refine A8 ?_ ?_|exact A7|refine A6 ?_ ?_|exact A5|(refine A0 ?_ ?_ ?_;kernel_rfl;kernel_rfl)) <;> (try (conv=>whnf)))
      all_goals first
       | (exfalso;omega)
       | (rw [hhit (by assumption)];exact B5 rfl rfl)
       | exact ⟨j + 1,⟨by omega,hst (by assumption)⟩,by omega,B0 h0 rfl ⟨rfl,rfl,rfl,trivial⟩ trivial rfl rfl rfl⟩
     ·obtain rfl:j = k:=by omega
      have hst:=Hy hI hJ
      rw [← Q2 hhs] at hst
      repeat' ((first|refine A4 ?_|refine S1 ?_|refine Z1 ?_|refine Z2 ?_|(refine And.intro ?_ ?_<;>intro h<;>try first|(exfalso;omega)|exact absurd rfl h)|refine Z3 ?_|refine Z4 ?_|intro el hel hbB|intro el hel|intro ex|refine Z5 ?_|(refine A9 ?_ ?_;exact ⟨by kernel_rfl,by decide⟩)|refine A8 ?_ ?_|exact A7|refine A6 ?_ ?_|exact A5|(refine A0 ?_ ?_ ?_;kernel_rfl;kernel_rfl)) <;> (try (conv=>whnf)))
      all_goals first
       | (exfalso;omega)
       | exact ⟨j + 1,⟨by omega,hst⟩,by omega,B0 h0 rfl ⟨rfl,rfl,trivial⟩ trivial rfl rfl rfl⟩
    ·obtain rfl:k = rows.length:=by omega
     rw [List.take_of_length_le (by simp)] at hI
     rw [if_neg (fun h=>h hI)] at hG
     subst hG
     repeat' ((first|refine A4 ?_|refine S1 ?_|refine Z1 ?_|refine Z2 ?_|(refine And.intro ?_ ?_<;>intro h<;>try first|(exfalso;omega)|exact absurd rfl h)|refine Z3 ?_|refine Z4 ?_|intro el hel hbB|intro el hel|intro ex|refine Z5 ?_|(refine A9 ?_ ?_;exact ⟨by kernel_rfl,by decide⟩)|refine A8 ?_ ?_|exact A7|refine A6 ?_ ?_|exact A5|(refine A0 ?_ ?_ ?_;kernel_rfl;kernel_rfl)) <;> (try (conv=>whnf)))
     all_goals first
      | (exfalso;omega)
      | exact B5 rfl rfl
 ·rw [if_pos hr]
  generalize H6 s = e at *
  refine F3 Tryz.func34 57 fun hrd E h0=>?_
  clear hrd
  repeat' ((first | refine B2 hsch ?_ |refine A4 ?_|refine S1 ?_|refine Z1 ?_|refine Z2 ?_|(refine And.intro ?_ ?_<;>intro h<;>try first|(exfalso;omega)|exact absurd rfl h)|refine Z3 ?_|refine Z4 ?_|intro el hel hbB|intro el hel|intro ex|refine Z5 ?_|(refine A9 ?_ ?_;exact ⟨by kernel_rfl,by decide⟩)|refine A8 ?_ ?_|exact A7|refine A6 ?_ ?_|exact A5|(refine A0 ?_ ?_ ?_;kernel_rfl;kernel_rfl)) <;> (try (conv=>whnf)))
  all_goals first
   | (exfalso;omega)
   | exact B5 rfl rfl
end Go.Proofs.YtiphlhoclaogjabGreatDoor
namespace Go.Proofs.YtiphlhoclaogjabGreatDoor
open Go Go.Av
attribute [local irreducible] D6 B8 D8 D7 DQ E0 E1 St.le B4 B9
set_option maxRecDepth 100000
theorem Hz {ws:List (List UInt8)} {w:List UInt8} (h:ws ≠ []):Lib.join (ws ++ [w]) [32] = Lib.join ws [32] ++ ([32] ++ w):=by
 cases ws with
 | nil=>exact absurd rfl h
 | cons x r=>simp [Lib.join_cons,Lib.joinTail]
set_option maxHeartbeats 8000000 in
theorem KI (s:C4) (hr:H6 s = 0) (c:C5) (hcm:c ∈ s.cols):B4 Tryz.prog 35 [M4 c] (.str (Lib.join (D9 c) [32])):=by
 obtain ⟨hn16,b2,b3⟩:=Cu hr hcm
 have h6:=(J7 hr).1
 obtain ⟨k,hk⟩:=List.mem_iff_getElem?.1 hcm
 have hkc:=PM hr hk
 rcases hkc with ⟨hk1,_⟩ | ⟨hk2,_⟩ | ⟨hk3,_⟩
 ·have hcw:Lib.join (D9 c) [32] = [105,100,32] ++ c.name:=by unfold D9;rw [if_pos hk1];simp [Lib.join_cons,Lib.joinTail]
  rw [hcw]
  refine F3 Tryz.func35 58 fun hrd E h0=>?_
  clear hrd
  repeat' ((first | (refine G9 ?_ ?_;(simp only [List.length_append,List.length_cons,List.length_nil];omega)) |refine A4 ?_|refine S1 ?_|refine Z1 ?_|refine Z2 ?_|(refine And.intro ?_ ?_<;>intro h<;>try first|(exfalso;omega)|exact absurd rfl h)|refine Z3 ?_|refine Z4 ?_|intro el hel hbB|intro el hel|intro ex|refine Z5 ?_|(refine A9 ?_ ?_;exact ⟨by kernel_rfl,by decide⟩)|refine A8 ?_ ?_|exact A7|refine A6 ?_ ?_|exact A5|(refine A0 ?_ ?_ ?_;kernel_rfl;kernel_rfl)) <;> (try (conv=>whnf)))
  all_goals first
   | (exfalso;omega)
   | exact B5 rfl rfl
 ·have hls:=b2 hk2
  have hit:=G7 c.lst (by omega) (by omega)
  have hil:=Lib.itoa_length_le c.lst (by omega) (by omega)
  have hcw:Lib.join (D9 c) [32] = [99,111,100,101,100,32] ++ c.name ++ [32] ++ Lib.itoa c.lst:=by unfold D9;rw [if_neg (by omega),if_pos hk2];simp [Lib.join_cons,Lib.joinTail]
  rw [hcw]
  generalize Lib.itoa c.lst = ip at *
  refine F3 Tryz.func35 58 fun hrd E h0=>?_
  clear hrd
  repeat' ((first | (refine G9 ?_ ?_;(simp only [List.length_append,List.length_cons,List.length_nil];omega)) | refine B2 hit ?_ | (refine E3 ?_ ?_;kernel_rfl) |refine A4 ?_|refine S1 ?_|refine Z1 ?_|refine Z2 ?_|(refine And.intro ?_ ?_<;>intro h<;>try first|(exfalso;omega)|exact absurd rfl h)|refine Z3 ?_|refine Z4 ?_|intro el hel hbB|intro el hel|intro ex|refine Z5 ?_|(refine A9 ?_ ?_;exact ⟨by kernel_rfl,by decide⟩)|refine A8 ?_ ?_|exact A7|refine A6 ?_ ?_|exact A5|(refine A0 ?_ ?_ ?_;kernel_rfl;kernel_rfl)) <;> (try (conv=>whnf)))
  all_goals first
   | (exfalso;omega)
   | exact B5 rfl rfl
 ·obtain ⟨m1,m2,m3,m4,m5,m6⟩:=w8 (b3 (by omega) (by omega))
  have hwb:=CG m6
  have hi1:=G7 c.low (by omega) (by omega)
  have hi2:=G7 c.high (by omega) (by omega)
  have hl1:=Lib.itoa_length_le c.low (by omega) (by omega)
  have hl2:=Lib.itoa_length_le c.high (by omega) (by omega)
  have hcw:D9 c = [L4,c.name,Lib.itoa c.low,Lib.itoa c.high,if c.opt = true then H2 else G8] ++ c.widths.map Lib.itoa:=by unfold D9;rw [if_neg (by omega),if_neg (by omega)];rfl
  rw [hcw]
  clear hcw
  have hj:∀ k ≤ c.widths.length,(Lib.join ([L4,c.name,Lib.itoa c.low,Lib.itoa c.high,if c.opt = true then H2 else G8] ++ (c.widths.take k).map Lib.itoa) [32]).length ≤ 9 * 22:=fun k hk=>by
   have h1:=W8 ([L4,c.name,Lib.itoa c.low,Lib.itoa c.high,if c.opt = true then H2 else G8] ++ (c.widths.take k).map Lib.itoa) 21 (fun w hw=>by
    simp only [List.mem_append,List.mem_cons,List.not_mem_nil,or_false,List.mem_map] at hw
    rcases hw with (rfl | rfl | rfl | rfl | rfl) | ⟨x,hx,rfl⟩
    ·decide
    ·omega
    ·exact hl1
    ·exact hl2
    ·split <;> decide
    ·have:=hwb x (List.mem_of_mem_take hx)
     exact Lib.itoa_length_le x (by omega) (by omega))
   simp only [List.length_append,List.length_cons,List.length_nil,List.length_map,List.length_take] at h1
   refine Nat.le_trans h1 ?_
   omega
  generalize Lib.itoa c.low = i1 at *
  generalize Lib.itoa c.high = i2 at *
  generalize hW:([L4,c.name,i1,i2,if c.opt = true then H2 else G8]:List (List UInt8)) = W at *
  have hWn:W ≠ []:=by rw [← hW];simp
  have hW0:Lib.join W [32] = [109,101,97,115,117,114,101,32] ++ c.name ++ [32] ++ i1 ++ [32] ++ i2 ++ (if c.opt = true then [32,109,97,121] else [32,110,101,101,100]):=by
   rw [← hW]
   cases c.opt <;> simp [Lib.join_cons,Lib.joinTail]
  refine F3 Tryz.func35 58 fun hrd E h0=>?_
  clear hrd
  repeat' ((first | (refine G9 ?_ ?_;(simp only [List.length_append,List.length_cons,List.length_nil];omega)) | refine B2 hi1 ?_ | refine B2 hi2 ?_ | (refine E3 ?_ ?_;kernel_rfl) |refine A4 ?_|refine S1 ?_|refine Z1 ?_|refine Z2 ?_|(refine And.intro ?_ ?_<;>intro h<;>try first|(exfalso;omega)|exact absurd rfl h)|refine Z3 ?_|refine Z4 ?_|intro el hel hbB|intro el hel|intro ex|refine Z5 ?_|(refine A9 ?_ ?_;exact ⟨by kernel_rfl,by decide⟩)|refine A8 ?_ ?_|exact A7|refine A6 ?_ ?_|exact A5|(refine A0 ?_ ?_ ?_;kernel_rfl;kernel_rfl)) <;> (try (conv=>whnf)))
  all_goals first
   | (exfalso;omega)
   | skip
  all_goals refine C2 (ι:=Nat) (fun j=>⟨[(1, .ref 0 0),(3, .str (Lib.join (W ++ (c.widths.take j).map Lib.itoa) [32])),(4, .i j)],1,[(0,some (.box (C0 c)))]⟩) (fun j=>j ≤ c.widths.length) (fun j=>c.widths.length - j) 0 (Nat.zero_le _) (B0 h0 rfl ⟨rfl,congrArg (fun z=>some (AV.str z)) (by rw [List.take_zero,List.map_nil,List.append_nil,hW0,h];rfl),rfl,trivial⟩ ⟨rfl,trivial⟩ rfl rfl rfl) (fun j hjl=>?_)
  all_goals (
   by_cases hjt:j < c.widths.length
   ·obtain ⟨w,hww⟩:∃ w,c.widths[j]? = some w:=⟨_,List.getElem?_eq_getElem hjt⟩
    have hwb:=hwb w (List.mem_of_getElem? hww)
    have hit:=G7 w (by omega) (by omega)
    have hil:=Lib.itoa_length_le w (by omega) (by omega)
    have hjj:=hj j hjl
    have htk:Lib.join (W ++ (c.widths.take (j + 1)).map Lib.itoa) [32] = Lib.join (W ++ (c.widths.take j).map Lib.itoa) [32] ++ ([32] ++ Lib.itoa w):=by
     rw [Q2 hww,List.map_append, ← List.append_assoc]
     exact Hz (fun e=>hWn (List.append_eq_nil_iff.1 e).1)
    generalize Lib.itoa w = iw at *
    generalize Lib.join (W ++ (c.widths.take j).map Lib.itoa) [32] = V at *
    repeat' ((first | (refine G9 ?_ ?_;(simp only [List.length_append,List.length_cons,List.length_nil];omega)) | (refine A3 (x:=w) hww (by omega) ?_) | refine B2 hit ?_ | (refine E3 ?_ ?_;kernel_rfl) |refine A4 ?_|refine S1 ?_|refine Z1 ?_|refine Z2 ?_|(refine And.intro ?_ ?_<;>intro h<;>try first|(exfalso;omega)|exact absurd rfl h)|refine Z3 ?_|refine Z4 ?_|intro el hel hbB|intro el hel|intro ex|refine Z5 ?_|(refine A9 ?_ ?_;exact ⟨by kernel_rfl,by decide⟩)|refine A8 ?_ ?_|exact A7|refine A6 ?_ ?_|exact A5|(refine A0 ?_ ?_ ?_;kernel_rfl;kernel_rfl)) <;> (try (conv=>whnf)))
    all_goals first
     | (exfalso;omega)
     | exact ⟨j + 1,by omega,by omega,B0 h0 rfl ⟨rfl,congrArg (fun z=>some (AV.str z)) htk.symm,rfl,trivial⟩ ⟨rfl,trivial⟩ rfl rfl rfl⟩
   ·obtain rfl:j = c.widths.length:=by omega
    rw [List.take_length]
    repeat' ((first|refine A4 ?_|refine S1 ?_|refine Z1 ?_|refine Z2 ?_|(refine And.intro ?_ ?_<;>intro h<;>try first|(exfalso;omega)|exact absurd rfl h)|refine Z3 ?_|refine Z4 ?_|intro el hel hbB|intro el hel|intro ex|refine Z5 ?_|(refine A9 ?_ ?_;exact ⟨by kernel_rfl,by decide⟩)|refine A8 ?_ ?_|exact A7|refine A6 ?_ ?_|exact A5|(refine A0 ?_ ?_ ?_;kernel_rfl;kernel_rfl)) <;> (try (conv=>whnf)))
    all_goals first
     | (exfalso;omega)
     | exact B5 rfl rfl
     | trace_state)
end Go.Proofs.YtiphlhoclaogjabGreatDoor
