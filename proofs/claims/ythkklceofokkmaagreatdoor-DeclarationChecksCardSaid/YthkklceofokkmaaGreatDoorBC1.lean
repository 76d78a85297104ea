/- Chapter 5: the program's check of a condition. Chapter 5: the program's check of a condition and of all in it. Chapter 5: truth values, the conditions about one column, and which picks cover others. Chapter 5: which picks cover others. Chapter 5: the first error of one condition, case by case. -/
import Derived.Test.YthkklceofokkmaaGreatDoorBCd1
set_option linter.unusedVariables false
set_option linter.unnecessarySimpa false
set_option linter.unusedSimpArgs false
namespace Go.Proofs.YthkklceofokkmaaGreatDoor
open Go Go.Av
attribute [local irreducible] E5 B7 E6 E7 DQ E8 F0 St.le B3 B5
set_option maxRecDepth 100000
def K0 (s:B2) (c:A4):Int :=
 if c.op < 1 ∨ 7 < c.op then 4 else if (c.kids.length:Int) ≠ U6 c.op ∨ ¬ (¬ (c.op ≠ 2 ∧ c.op ≠ 3 ∧ c.op ≠ 4 ∧ c.col ≠ 0) ∧ ¬ (c.op ≠ 2 ∧ c.code ≠ 0) ∧ (c.op = 3 ∨ c.lo = 0 ∧ c.hi = 0)) then 11 else if c.op ≠ 2 ∧ c.op ≠ 3 ∧ c.op ≠ 4 then 0 else
 if c.col < 0 ∨ (s.cols.length:Int) ≤ c.col then 7 else
 if c.op = 2 then (if (C6 s c.col).kind ≠ 2 then 7 else if c.code < 0 ∨ ((D7 s (C6 s c.col)).2.length:Int) ≤ c.code then 6 else 0)
 else if c.op = 3 then (if (C6 s c.col).kind ≠ 3 then 7 else if c.hi < c.lo ∨ c.lo < -1000000 ∨ 1000000 < c.hi then 2 else 0)
 else (if (C6 s c.col).kind ≠ 3 ∨ (C6 s c.col).opt = false then 7 else 0)
set_option maxHeartbeats 4000000 in
theorem Nd (s:B2) (c:A4) (hr:C8 s = 0):B3 Tryz.prog 118 [sA s,L8 c] (.i (K0 s c)):=by
 have hk:=TY c.op
 have hu:=PL c
 rw [T6]
 refine F7 Tryz.func118 113 fun hrd E h0=>?_
 have hlen:c.kids.length ≤ 9223372036854775807:=by
  have:=((hrd _ (List.mem_cons_of_mem _ (List.mem_cons_self ..))).agg (.sl 6 (c.kids.map P4)) (by simp)).sl
  simpa using this
 clear hrd
 rw [T6] at hu
 have hlst:∀ x,s.cols[c.col.toNat]? = some x → x.kind = 2 → 0 ≤ x.lst ∧ x.lst < s.lists.length:=fun x hx h2=>by
  have:=Aa.lst hr (List.mem_of_getElem? hx) h2
  omega
 repeat' ((first | refine B0 hk ?_ | refine B0 hu ?_ | (refine Ce ?_ ?_ (fun lx hlx=>?_);(have:=hlst _ (by assumption) (by omega);omega);(have:=hlst _ (by assumption) (by omega);omega)) | (refine J2 ?_ ?_;kernel_rfl) |refine A1 ?_|refine S1 ?_|refine Z1 ?_|refine Z2 ?_|(refine And.intro ?_ ?_<;>intro h<;>try first|(exfalso;omega)|exact absurd rfl h)|refine Z3 ?_|refine Z4 ?_|intro el hel hbB|intro el hel|intro ex|refine Z5 ?_|(refine A8 ?_ ?_;exact ⟨by kernel_rfl,by decide⟩)|refine A7 ?_ ?_|exact A6|refine A3 ?_ ?_|exact A2|(refine A0 ?_ ?_ ?_;kernel_rfl;kernel_rfl)) <;> (try (conv=>whnf)))
 all_goals first
  | (refine A9 rfl (congrArg AV.i ?_);unfold K0;(repeat' split) <;> omega)
  | (refine A9 rfl (congrArg AV.i ?_);unfold K0;rw [E0 hel];(repeat' split) <;> omega)
  | (refine A9 rfl (congrArg AV.i ?_);unfold K0;rw [E0 hel,Q1 hlx];(repeat' split) <;> omega)
  | (refine A9 rfl (congrArg AV.i ?_);unfold K0;rw [E0 hel];(repeat' split) <;> first | rfl | (exfalso;omega) | (exfalso;simp_all;done))
mutual
def I8:A4 → Nat
 | .mk _ _ _ _ _ ks=>V9 ks + 1
def V9:List A4 → Nat
 | []=>0
 | x :: r=>I8 x + V9 r
end
theorem Bk (c:A4):I8 c = V9 c.kids + 1:=by cases c;rfl
theorem Rs:∀ (l:List A4) (m n:Int),n ≤ AF l m n
 | [],m,n=>by unfold AF;omega
 | x :: r,m,n=>by
   unfold AF
   split
   ·omega
   ·have h1:=Ib x (m - n)
    have h2:=Rs r m (n + AE x (m - n))
    omega
theorem aX (c:A4):∀ m:Int,(AE c m ≤ m → (I8 c:Int) = AE c m) ∧ ((I8 c:Int) ≤ m → AE c m = I8 c):=by
 refine Q3 (p:=fun c=>∀ m:Int,(AE c m ≤ m → (I8 c:Int) = AE c m) ∧ ((I8 c:Int) ≤ m → AE c m = I8 c)) (fun c ih m=>?_) c
 have key:∀ (l:List A4),(∀ k ∈ l,k ∈ c.kids) → ∀ n:Int,(AF l m n ≤ m → AF l m n = n + V9 l) ∧ (n + V9 l ≤ m → AF l m n = n + V9 l):=by
  intro l
  induction l with
  | nil=>intro _ n;unfold AF V9;exact ⟨fun _=>by omega,fun _=>by omega⟩
  | cons x r ihl =>
    intro hl n
    obtain ⟨i1,i2⟩:=ih x (hl x (by simp)) (m - n)
    obtain ⟨j1,j2⟩:=ihl (fun k hk=>hl k (by simp [hk])) (n + AE x (m - n))
    have hge:=Rs r m (n + AE x (m - n))
    have hbd:=Ib x (m - n)
    unfold AF V9
    by_cases h:m < n
    ·rw [if_pos h]
     exact ⟨fun h2=>by omega,fun h2=>by omega⟩
    ·rw [if_neg h]
     refine ⟨fun h2=>?_,fun h2=>?_⟩
     ·rw [j1 h2]
      have:=i1 (by omega)
      omega
     ·have:=i2 (by omega)
      rw [this] at j2 ⊢
      rw [j2 (by omega)]
      omega
 obtain ⟨k1,k2⟩:=key c.kids (fun k hk=>hk) 1
 rw [Lr,Bk]
 exact ⟨fun h=>by have:=k1 h;omega,fun h=>by have:=k2 (by omega);omega⟩
theorem Rt (c:A4):O8 c ≤ I8 c:=by
 refine Q3 (p:=fun c=>O8 c ≤ I8 c) (fun c ih=>?_) c
 have key:∀ (l:List A4),(∀ k ∈ l,k ∈ c.kids) → ∀ n:Nat,S7 l n ≤ max n (V9 l):=by
  intro l
  induction l with
  | nil=>intro _ n;unfold S7;omega
  | cons x r ihl =>
    intro hl n
    have h1:=ih x (hl x (by simp))
    have h2:=ihl (fun k hk=>hl k (by simp [hk])) (max n (O8 x))
    unfold S7 V9
    omega
 have:=key c.kids (fun k hk=>hk) 0
 rw [Dv,Bk]
 omega
mutual
def j9 (s:B2):A4 → Int
 | .mk o c k l h ks=>if K0 s (.mk o c k l h ks) = 0 then Y4 s ks else K0 s (.mk o c k l h ks)
def Y4 (s:B2):List A4 → Int
 | []=>0
 | x :: r=>if j9 s x = 0 then Y4 s r else j9 s x
end
theorem Dw (s:B2) (c:A4):j9 s c = if K0 s c = 0 then Y4 s c.kids else K0 s c:=by cases c;rfl
set_option maxHeartbeats 4000000 in
theorem Nf (s:B2) (hr:C8 s = 0) (c:A4):B3 Tryz.prog 70 [sA s,L8 c] (.i (j9 s c)):=by
 refine Q3 (p:=fun c=>B3 Tryz.prog 70 [sA s,L8 c] (.i (j9 s c))) (fun c ih=>?_) c
 have h1:=Nd s c hr
 rw [T6] at h1 ⊢
 rw [Dw]
 refine F7 Tryz.func70 29 fun hrd E h0=>?_
 have hlen:c.kids.length ≤ 9223372036854775807:=by
  have:=((hrd _ (List.mem_cons_of_mem _ (List.mem_cons_self ..))).agg (.sl 6 (c.kids.map P4)) (by simp)).sl
  simpa using this
 clear hrd
 repeat' ((first | refine B0 h1 ?_ |refine A1 ?_|refine S1 ?_|refine Z1 ?_|refine Z2 ?_|(refine And.intro ?_ ?_<;>intro h<;>try first|(exfalso;omega)|exact absurd rfl h)|refine Z3 ?_|refine Z4 ?_|intro el hel hbB|intro el hel|intro ex|refine Z5 ?_|(refine A8 ?_ ?_;exact ⟨by kernel_rfl,by decide⟩)|refine A7 ?_ ?_|exact A6|refine A3 ?_ ?_|exact A2|(refine A0 ?_ ?_ ?_;kernel_rfl;kernel_rfl)) <;> (try (conv=>whnf)))
 all_goals first
  | exact A9 rfl (congrArg AV.i (by rw [if_neg (by assumption)]))
  | skip
 rw [if_pos (Decidable.of_not_not (by assumption))]
 refine D8 (ι:=Nat) (fun k=>⟨[(2, .ref 0 0),(16, .sl 6 (c.kids.map P4)),(17, .i c.kids.length),(18, .i k)],2,[(0,some (.box (sL s))),(1,some (.box (Ax c)))]⟩) (fun k=>k ≤ c.kids.length ∧ Y4 s c.kids = Y4 s (c.kids.drop k)) (fun k=>c.kids.length - k) 0 ⟨Nat.zero_le _,rfl⟩
  (A5 h0 rfl ⟨rfl,rfl,rfl,rfl,trivial⟩ ⟨rfl,rfl,trivial⟩ rfl rfl rfl) (fun k hI=>?_)
 obtain ⟨hk,hI⟩:=hI
 repeat' ((first | (refine B0 (ih _ (List.mem_of_getElem? (by assumption))) ?_) |refine A1 ?_|refine S1 ?_|refine Z1 ?_|refine Z2 ?_|(refine And.intro ?_ ?_<;>intro h<;>try first|(exfalso;omega)|exact absurd rfl h)|refine Z3 ?_|refine Z4 ?_|intro el hel hbB|intro el hel|intro ex|refine Z5 ?_|(refine A8 ?_ ?_;exact ⟨by kernel_rfl,by decide⟩)|refine A7 ?_ ?_|exact A6|refine A3 ?_ ?_|exact A2|(refine A0 ?_ ?_ ?_;kernel_rfl;kernel_rfl)) <;> (try (conv=>whnf)))
 all_goals first
  | exact A9 rfl (congrArg AV.i (by rw [hI,M9 hel,Y4,if_neg (by assumption)]))
  | exact A9 rfl (congrArg AV.i (by rw [hI,AW (by assumption)];rfl))
  | exact ⟨k + 1,⟨by omega,by rw [hI,M9 hel,Y4,if_pos (Decidable.of_not_not (by assumption))]⟩,by omega,A5 h0 rfl ⟨rfl,rfl,rfl,rfl,trivial⟩ ⟨rfl,rfl,trivial⟩ rfl rfl rfl⟩
def H0 (s:B2) (c:A4):Int:=if C8 s = 0 then (if 40 < I8 c then 1 else if 10 < O8 c then 22 else j9 s c) else C8 s
set_option maxHeartbeats 4000000 in
theorem BD (s:B2) (c:A4):B3 Tryz.prog 33 [sA s,L8 c] (.i (H0 s c)):=by
 have h1:=AB s
 have h2:=RF c 40 (by omega) (by omega)
 have h3:(I8 c:Int) ≤ 40 → B3 Tryz.prog 69 [L8 c] (.i (O8 c)):=fun h=>TX c (by have:=Rt c;omega)
 have h4:=fun hr=>Nf s hr c
 obtain ⟨t1,t2⟩:=aX c 40
 rw [T6] at *
 refine F7 Tryz.func33 23 fun hrd E h0=>?_
 clear hrd
 unfold H0
 repeat' ((first | refine B0 h1 ?_ | refine B0 h2 ?_ | refine B0 (h3 (by omega)) ?_ | refine B0 (h4 (Decidable.of_not_not (by assumption))) ?_ |refine A1 ?_|refine S1 ?_|refine Z1 ?_|refine Z2 ?_|(refine And.intro ?_ ?_<;>intro h<;>try first|(exfalso;omega)|exact absurd rfl h)|refine Z3 ?_|refine Z4 ?_|intro el hel hbB|intro el hel|intro ex|refine Z5 ?_|(refine A8 ?_ ?_;exact ⟨by kernel_rfl,by decide⟩)|refine A7 ?_ ?_|exact A6|refine A3 ?_ ?_|exact A2|(refine A0 ?_ ?_ ?_;kernel_rfl;kernel_rfl)) <;> (try (conv=>whnf)))
 all_goals first
  | exact A9 rfl (congrArg AV.i (by rw [if_neg (by assumption)]))
  | exact A9 rfl (congrArg AV.i (by rw [if_pos (Decidable.of_not_not (by assumption)),if_pos (by omega)]))
  | exact A9 rfl (congrArg AV.i (by rw [if_pos (Decidable.of_not_not (by assumption)),if_neg (by omega),if_pos (by omega)]))
  | exact A9 rfl (congrArg AV.i (by rw [if_pos (Decidable.of_not_not (by assumption)),if_neg (by omega),if_neg (by omega)]))
def XY (b:Bool):Int:=if b = true then 1 else -1
def eo (s:B2) (c:A4) (v:Int):Int :=
 if c.op = 2 then XY (cq (D7 s (C6 s c.col)).1 (D7 s (C6 s c.col)).2 v c.code) else if c.op = 4 then XY (decide (v = (-1099511627776))) else if v = (-1099511627776) then 0 else XY (decide (c.lo ≤ v ∧ v ≤ c.hi))
mutual
def dA:A4 → List A4
 | .mk o c k l h ks=>if o = 2 ∨ o = 3 ∨ o = 4 then [.mk o c k l h ks] else dB ks
def dB:List A4 → List A4
 | []=>[]
 | x :: r=>dA x ++ dB r
end
end Go.Proofs.YthkklceofokkmaaGreatDoor
namespace Go.Proofs.YthkklceofokkmaaGreatDoor
open Go Go.Av
attribute [local irreducible] E5 B7 E6 E7 DQ E8 F0 St.le B3 B5
set_option maxRecDepth 100000
set_option maxHeartbeats 2000000 in
theorem dC (l:List (Pk)) (f:Nat) (caps:List AV) (p:(Pk) → Bool) (hf:∀ x ∈ l,B3 Tryz.prog f ((fun x=>.agg (P8 x)) x :: caps) (.b (p x))):B3 Tryz.prog 125 [.sl 2 (l.map P8), .fn f caps] (.i (K2 p l 0)):=by
 refine F7 Tryz.func125 19 fun hrd E h0=>?_
 have hlen:l.length ≤ 9223372036854775807:=by have:=(hrd (.sl 2 (l.map P8)) (by simp)).sl;simpa using this
 repeat' ((first|refine A1 ?_|refine S1 ?_|refine Z1 ?_|refine Z2 ?_|(refine And.intro ?_ ?_<;>intro h<;>try first|(exfalso;omega)|exact absurd rfl h)|refine Z3 ?_|refine Z4 ?_|intro el hel hbB|intro el hel|intro ex|refine Z5 ?_|(refine A8 ?_ ?_;exact ⟨by kernel_rfl,by decide⟩)|refine A7 ?_ ?_|exact A6|refine A3 ?_ ?_|exact A2|(refine A0 ?_ ?_ ?_;kernel_rfl;kernel_rfl)) <;> (try (conv=>whnf)))
 refine D8 (ι:=Nat) (fun k=>⟨[(0, .sl 2 (l.map P8)),(1, .fn f caps),(7, .i l.length),(8, .i k)],0,[]⟩) (fun k=>k ≤ l.length ∧ K2 p l 0 = K2 p (l.drop k) k) (fun k=>l.length - k) 0 ⟨Nat.zero_le _,rfl⟩ (A5 h0 rfl ⟨rfl,rfl,rfl,rfl,trivial⟩ trivial rfl rfl rfl) (fun k hI=>?_)
 obtain ⟨hk,hI⟩:=hI
 repeat' ((first | refine B0 (hf _ (List.mem_of_getElem? hel)) ?_ |refine A1 ?_|refine S1 ?_|refine Z1 ?_|refine Z2 ?_|(refine And.intro ?_ ?_<;>intro h<;>try first|(exfalso;omega)|exact absurd rfl h)|refine Z3 ?_|refine Z4 ?_|intro el hel hbB|intro el hel|intro ex|refine Z5 ?_|(refine A8 ?_ ?_;exact ⟨by kernel_rfl,by decide⟩)|refine A7 ?_ ?_|exact A6|refine A3 ?_ ?_|exact A2|(refine A0 ?_ ?_ ?_;kernel_rfl;kernel_rfl)) <;> (try (conv=>whnf)))
 all_goals first
  | exact ⟨k + 1,⟨by omega,by rw [hI,M9 hel,K2,if_neg (by simp [h])];rfl⟩,by omega,A5 h0 rfl ⟨rfl,rfl,rfl,rfl,trivial⟩ trivial rfl rfl rfl⟩
  | exact A9 rfl (congrArg AV.i (by rw [hI,M9 hel,K2,if_pos (by simp [h])]))
  | exact A9 rfl (congrArg AV.i (by rw [hI,show k = l.length by omega,List.drop_length];rfl))
set_option maxHeartbeats 2000000 in
theorem dD (l:List (Pk)) (f:Nat) (caps:List AV) (p:(Pk) → Bool) (hf:∀ x ∈ l,B3 Tryz.prog f ((fun x=>.agg (P8 x)) x :: caps) (.b (p x))):B3 Tryz.prog 79 [.sl 2 (l.map P8), .fn f caps] (.b (l.any p)):=by
 refine F7 Tryz.func79 9 fun hrd E h0=>?_
 have hidx:=dC l f caps p hf
 repeat' ((first | refine B0 hidx ?_ |refine A1 ?_|refine S1 ?_|refine Z1 ?_|refine Z2 ?_|(refine And.intro ?_ ?_<;>intro h<;>try first|(exfalso;omega)|exact absurd rfl h)|refine Z3 ?_|refine Z4 ?_|intro el hel hbB|intro el hel|intro ex|refine Z5 ?_|(refine A8 ?_ ?_;exact ⟨by kernel_rfl,by decide⟩)|refine A7 ?_ ?_|exact A6|refine A3 ?_ ?_|exact A2|(refine A0 ?_ ?_ ?_;kernel_rfl;kernel_rfl)) <;> (try (conv=>whnf)))
 all_goals first
  | exact A9 rfl (congrArg AV.b (Ch p l 0 (by omega)))
end Go.Proofs.YthkklceofokkmaaGreatDoor
namespace Go.Proofs.YthkklceofokkmaaGreatDoor
open Go Go.Av
attribute [local irreducible] E5 B7 E6 E7 DQ E8 F0 St.le B3 B5
set_option maxRecDepth 100000
theorem Lt (op:Int):(op = 5 ∨ op = 6 → U6 op = 2) ∧ (op = 7 → U6 op = 1) ∧ (op ≠ 5 → op ≠ 6 → op ≠ 7 → U6 op = 0):=by
 unfold U6
 refine ⟨fun h=>by rw [if_pos h],fun h=>by rw [if_neg (by omega),if_pos h],fun h1 h2 h3=>by rw [if_neg (by omega),if_neg h3]⟩
theorem dE {s:B2} {c:A4} (h:c.op < 1 ∨ 7 < c.op):K0 s c = 4:=by unfold K0;rw [if_pos h]
theorem aY {s:B2} {c:A4} (h0:1 ≤ c.op ∧ c.op ≤ 7) (h:(c.kids.length:Int) ≠ U6 c.op ∨ ¬ (¬ (c.op ≠ 2 ∧ c.op ≠ 3 ∧ c.op ≠ 4 ∧ c.col ≠ 0) ∧ ¬ (c.op ≠ 2 ∧ c.code ≠ 0) ∧ (c.op = 3 ∨ c.lo = 0 ∧ c.hi = 0))):K0 s c = 11:=by unfold K0;rw [if_neg (by omega),if_pos h]
theorem aZ {s:B2} {c:A4} (hp:(1 ≤ c.op ∧ c.op ≤ 7) ∧ (c.kids.length:Int) = U6 c.op ∧ ¬ (c.op ≠ 2 ∧ c.op ≠ 3 ∧ c.op ≠ 4 ∧ c.col ≠ 0) ∧ ¬ (c.op ≠ 2 ∧ c.code ≠ 0) ∧ (c.op = 3 ∨ c.lo = 0 ∧ c.hi = 0)) (h2:c.op = 2) (h:¬ (0 ≤ c.col ∧ c.col < s.cols.length ∧ (C6 s c.col).kind = 2)):K0 s c = 7:=by
 unfold K0
 rw [if_neg (by omega),if_neg (by omega),if_neg (by omega)]
 by_cases h3:c.col < 0 ∨ (s.cols.length:Int) ≤ c.col
 ·rw [if_pos h3]
 ·rw [if_neg h3,if_pos h2,if_pos (by omega)]
theorem aa {s:B2} {c:A4} (hp:(1 ≤ c.op ∧ c.op ≤ 7) ∧ (c.kids.length:Int) = U6 c.op ∧ ¬ (c.op ≠ 2 ∧ c.op ≠ 3 ∧ c.op ≠ 4 ∧ c.col ≠ 0) ∧ ¬ (c.op ≠ 2 ∧ c.code ≠ 0) ∧ (c.op = 3 ∨ c.lo = 0 ∧ c.hi = 0)) (h2:c.op = 3) (h:¬ (0 ≤ c.col ∧ c.col < s.cols.length ∧ (C6 s c.col).kind = 3)):K0 s c = 7:=by
 unfold K0
 rw [if_neg (by omega),if_neg (by omega),if_neg (by omega)]
 by_cases h3:c.col < 0 ∨ (s.cols.length:Int) ≤ c.col
 ·rw [if_pos h3]
 ·rw [if_neg h3,if_neg (by omega),if_pos h2,if_pos (by omega)]
theorem ab {s:B2} {c:A4} (hp:(1 ≤ c.op ∧ c.op ≤ 7) ∧ (c.kids.length:Int) = U6 c.op ∧ ¬ (c.op ≠ 2 ∧ c.op ≠ 3 ∧ c.op ≠ 4 ∧ c.col ≠ 0) ∧ ¬ (c.op ≠ 2 ∧ c.code ≠ 0) ∧ (c.op = 3 ∨ c.lo = 0 ∧ c.hi = 0)) (h2:c.op = 4) (h:¬ (0 ≤ c.col ∧ c.col < s.cols.length ∧ (C6 s c.col).kind = 3)):K0 s c = 7:=by
 unfold K0
 rw [if_neg (by omega),if_neg (by omega),if_neg (by omega)]
 by_cases h3:c.col < 0 ∨ (s.cols.length:Int) ≤ c.col
 ·rw [if_pos h3]
 ·rw [if_neg h3,if_neg (by omega),if_neg (by omega),if_pos (by omega)]
theorem XZ {s:B2} {c:A4} (hp:(1 ≤ c.op ∧ c.op ≤ 7) ∧ (c.kids.length:Int) = U6 c.op ∧ ¬ (c.op ≠ 2 ∧ c.op ≠ 3 ∧ c.op ≠ 4 ∧ c.col ≠ 0) ∧ ¬ (c.op ≠ 2 ∧ c.code ≠ 0) ∧ (c.op = 3 ∨ c.lo = 0 ∧ c.hi = 0)) (h2:c.op = 4) {x:G9} (hx:s.cols[c.col.toNat]? = some x) (h:x.opt = false):K0 s c = 7:=by
 unfold K0
 rw [if_neg (by omega),if_neg (by omega),if_neg (by omega),E0 hx]
 by_cases h3:c.col < 0 ∨ (s.cols.length:Int) ≤ c.col
 ·rw [if_pos h3]
 ·rw [if_neg h3,if_neg (by omega),if_neg (by omega),if_pos (.inr h)]
theorem VS {s:B2} {c:A4} (hp:(1 ≤ c.op ∧ c.op ≤ 7) ∧ (c.kids.length:Int) = U6 c.op ∧ ¬ (c.op ≠ 2 ∧ c.op ≠ 3 ∧ c.op ≠ 4 ∧ c.col ≠ 0) ∧ ¬ (c.op ≠ 2 ∧ c.code ≠ 0) ∧ (c.op = 3 ∨ c.lo = 0 ∧ c.hi = 0)) (h2:c.op = 2) (h:0 ≤ c.col ∧ c.col < s.cols.length ∧ (C6 s c.col).kind = 2) (h3:c.code < 0 ∨ ((D7 s (C6 s c.col)).2.length:Int) ≤ c.code):K0 s c = 6:=by
 unfold K0
 rw [if_neg (by omega),if_neg (by omega),if_neg (by omega),if_neg (by omega),if_pos h2,if_neg (by omega),if_pos h3]
theorem dF {s:B2} {c:A4} (hp:(1 ≤ c.op ∧ c.op ≤ 7) ∧ (c.kids.length:Int) = U6 c.op ∧ ¬ (c.op ≠ 2 ∧ c.op ≠ 3 ∧ c.op ≠ 4 ∧ c.col ≠ 0) ∧ ¬ (c.op ≠ 2 ∧ c.code ≠ 0) ∧ (c.op = 3 ∨ c.lo = 0 ∧ c.hi = 0)) (h2:c.op = 3) (h:0 ≤ c.col ∧ c.col < s.cols.length ∧ (C6 s c.col).kind = 3) (h3:c.hi < c.lo ∨ c.lo < -1000000 ∨ 1000000 < c.hi):K0 s c = 2:=by
 unfold K0
 rw [if_neg (by omega),if_neg (by omega),if_neg (by omega),if_neg (by omega),if_neg (by omega),if_pos h2,if_neg (by omega),if_pos h3]
theorem Ic {s:B2} {c:A4} (hp:(1 ≤ c.op ∧ c.op ≤ 7) ∧ (c.kids.length:Int) = U6 c.op ∧ ¬ (c.op ≠ 2 ∧ c.op ≠ 3 ∧ c.op ≠ 4 ∧ c.col ≠ 0) ∧ ¬ (c.op ≠ 2 ∧ c.code ≠ 0) ∧ (c.op = 3 ∨ c.lo = 0 ∧ c.hi = 0)) (h2:c.op ≠ 2 ∧ c.op ≠ 3 ∧ c.op ≠ 4):K0 s c = 0:=by
 unfold K0
 rw [if_neg (by omega),if_neg (by omega),if_pos h2]
theorem Ru {s:B2} {c:A4} (hp:(1 ≤ c.op ∧ c.op ≤ 7) ∧ (c.kids.length:Int) = U6 c.op ∧ ¬ (c.op ≠ 2 ∧ c.op ≠ 3 ∧ c.op ≠ 4 ∧ c.col ≠ 0) ∧ ¬ (c.op ≠ 2 ∧ c.code ≠ 0) ∧ (c.op = 3 ∨ c.lo = 0 ∧ c.hi = 0)) (h2:c.op = 2) (h:0 ≤ c.col ∧ c.col < s.cols.length ∧ (C6 s c.col).kind = 2) (h3:¬ (c.code < 0 ∨ ((D7 s (C6 s c.col)).2.length:Int) ≤ c.code)):K0 s c = 0:=by
 unfold K0
 rw [if_neg (by omega),if_neg (by omega),if_neg (by omega),if_neg (by omega),if_pos h2,if_neg (by omega),if_neg h3]
theorem Rv {s:B2} {c:A4} (hp:(1 ≤ c.op ∧ c.op ≤ 7) ∧ (c.kids.length:Int) = U6 c.op ∧ ¬ (c.op ≠ 2 ∧ c.op ≠ 3 ∧ c.op ≠ 4 ∧ c.col ≠ 0) ∧ ¬ (c.op ≠ 2 ∧ c.code ≠ 0) ∧ (c.op = 3 ∨ c.lo = 0 ∧ c.hi = 0)) (h2:c.op = 3) (h:0 ≤ c.col ∧ c.col < s.cols.length ∧ (C6 s c.col).kind = 3) (h3:¬ (c.hi < c.lo ∨ c.lo < -1000000 ∨ 1000000 < c.hi)):K0 s c = 0:=by
 unfold K0
 rw [if_neg (by omega),if_neg (by omega),if_neg (by omega),if_neg (by omega),if_neg (by omega),if_pos h2,if_neg (by omega),if_neg h3]
theorem Rw {s:B2} {c:A4} (hp:(1 ≤ c.op ∧ c.op ≤ 7) ∧ (c.kids.length:Int) = U6 c.op ∧ ¬ (c.op ≠ 2 ∧ c.op ≠ 3 ∧ c.op ≠ 4 ∧ c.col ≠ 0) ∧ ¬ (c.op ≠ 2 ∧ c.code ≠ 0) ∧ (c.op = 3 ∨ c.lo = 0 ∧ c.hi = 0)) (h2:c.op = 4) (h:0 ≤ c.col ∧ c.col < s.cols.length ∧ (C6 s c.col).kind = 3) {x:G9} (hx:s.cols[c.col.toNat]? = some x) (ho:x.opt = true):K0 s c = 0:=by
 unfold K0
 rw [E0 hx] at *
 rw [if_neg (by omega),if_neg (by omega),if_neg (by omega),if_neg (by omega),if_neg (by omega),if_neg (by omega),if_neg (by rw [ho];intro h9;rcases h9 with h9 | h9;exact h9 h.2.2;cases h9)]
end Go.Proofs.YthkklceofokkmaaGreatDoor
