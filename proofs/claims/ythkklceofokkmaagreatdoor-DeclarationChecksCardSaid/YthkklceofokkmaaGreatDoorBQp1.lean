/- Chapter 8: the texts of questions and declarations: the program's walks. -/
import Derived.Test.YthkklceofokkmaaGreatDoorBXs
import Derived.Test.YthkklceofokkmaaGreatDoorBQn1
import Derived.Test.YthkklceofokkmaaGreatDoorBSb
import Derived.Test.YthkklceofokkmaaGreatDoorBC4
set_option linter.unusedVariables false
set_option linter.unnecessarySimpa false
set_option linter.unusedSimpArgs false
namespace Go.Proofs.YthkklceofokkmaaGreatDoor
open Go Go.Av
attribute [local irreducible] E5 B7 E6 E7 DQ E8 F0 St.le B3 B5
set_option maxRecDepth 100000
theorem CN (s:B2) (c:A4) (h:H0 s c = 0):B3 Tryz.prog 45 [sA s,L8 c] (.str (D6 s c)):=by
 have h1:=RH s c
 have e:Pp s c = (D6 s c,0):=by unfold Pp;rw [if_pos h]
 rw [e] at h1
 refine F7 Tryz.func45 14 fun hrd E h0=>?_
 clear hrd
 repeat' ((first | refine B0 h1 ?_ |refine A1 ?_|refine S1 ?_|refine Z1 ?_|refine Z2 ?_|(refine And.intro ?_ ?_<;>intro h<;>try first|(exfalso;omega)|exact absurd rfl h)|refine Z3 ?_|refine Z4 ?_|intro el hel hbB|intro el hel|intro ex|refine Z5 ?_|(refine A8 ?_ ?_;exact ⟨by kernel_rfl,by decide⟩)|refine A7 ?_ ?_|exact A6|refine A3 ?_ ?_|exact A2|(refine A0 ?_ ?_ ?_;kernel_rfl;kernel_rfl)) <;> (try (conv=>whnf)))
 all_goals first
  | exact A9 rfl rfl
set_option maxHeartbeats 4000000 in
theorem CO (s:B2) (c:Int) (h:0 ≤ c ∧ c < s.cols.length):B3 Tryz.prog 88 [.i c, .iptr (sL s)] (.str (H7 s c)):=by
 obtain ⟨x,hx⟩:∃ x,s.cols[c.toNat]? = some x:=⟨_,List.getElem?_eq_getElem (by omega)⟩
 have e:H7 s c = x.name:=by unfold H7 R4;rw [if_neg (by omega),E0 hx]
 rw [e]
 refine F7 Tryz.func88 10 fun hrd E h0=>?_
 clear hrd
 repeat' ((first | (refine B1 (x:=x) hx (by omega) ?_) | (refine J2 ?_ ?_;kernel_rfl) |refine A1 ?_|refine S1 ?_|refine Z1 ?_|refine Z2 ?_|(refine And.intro ?_ ?_<;>intro h<;>try first|(exfalso;omega)|exact absurd rfl h)|refine Z3 ?_|refine Z4 ?_|intro el hel hbB|intro el hel|intro ex|refine Z5 ?_|(refine A8 ?_ ?_;exact ⟨by kernel_rfl,by decide⟩)|refine A7 ?_ ?_|exact A6|refine A3 ?_ ?_|exact A2|(refine A0 ?_ ?_ ?_;kernel_rfl;kernel_rfl)) <;> (try (conv=>whnf)))
 all_goals first
  | exact A9 rfl rfl
  | (exfalso;omega)
theorem IF {α:Type} (f:α → List UInt8) (l:List α) (k:Nat) {x:α} (h:l[k]? = some x):(l.take (k + 1)).flatMap f = (l.take k).flatMap f ++ f x:=by
 rw [IY h,List.flatMap_append];simp
theorem di {a b:List UInt8} (h:a ≠ []):a ++ b ≠ []:=by
 cases a with
 | nil=>exact absurd rfl h
 | cons x r=>simp
set_option maxHeartbeats 16000000 in
theorem YY (s:B2) (hr:C8 s = 0) (q:D3) (hk:q.kind = 1) (hn:q.name.length ≤ 16) (hf:H0 s q.flt = 0) (hdl:q.dims.length ≤ 3) (hds:∀ d ∈ q.dims,SF s d) (hm:q.mea = -1 ∨ 0 ≤ q.mea ∧ q.mea < s.cols.length):B3 Tryz.prog 46 [sA s,W7 q] (.str (K3 s q ++ [10])):=by
 have hc:=CN s q.flt hf
 have lf:=Ae hf
 have lm:=Ap hr q.mea
 unfold K3 Fj
 rw [if_pos hk]
 generalize D6 s q.flt = F at *
 have w1:=Gq (Ay ++ q.name ++ Da) (by simp only [List.length_append,List.length_cons,List.length_nil];omega)
 have hl:∀ k,(q.dims.take k).length ≤ 3:=fun k=>by rw [List.length_take];omega
 have hfl:∀ k,((q.dims.take k).flatMap (d7 s)).length ≤ 123:=fun k=>by
  have h1:=u7 (l:=q.dims.take k) (f:=d7 s) (n:=41) fun d hd=>MF hr (hds d (List.mem_of_mem_take hd))
  have h2:(q.dims.take k).length * 41 ≤ 3 * 41:=Nat.mul_le_mul_right _ (hl k)
  omega
 refine F7 Tryz.func46 99 fun hrd E h0=>?_
 have hlen:q.dims.length ≤ 9223372036854775807:=by omega
 clear hrd
 repeat' ((first | refine DE (T:=87) rfl ?_ | (refine G2 ?_ ?_;(simp only [List.length_append,List.length_cons,List.length_nil];omega)) |refine A1 ?_|refine S1 ?_|refine Z1 ?_|refine Z2 ?_|(refine And.intro ?_ ?_<;>intro h<;>try first|(exfalso;omega)|exact absurd rfl h)|refine Z3 ?_|refine Z4 ?_|intro el hel hbB|intro el hel|intro ex|refine Z5 ?_|(refine A8 ?_ ?_;exact ⟨by kernel_rfl,by decide⟩)|refine A7 ?_ ?_|exact A6|refine A3 ?_ ?_|exact A2|(refine A0 ?_ ?_ ?_;kernel_rfl;kernel_rfl) | refine nc [2] [0] w1 rfl rfl rfl ⟨rfl,trivial⟩ ?_ | refine Y8 0 ?_) <;> (try (conv=>whnf)))
 all_goals first
  | (exfalso;omega)
  | skip
 clear w1
 refine D8 (ι:=Nat) (fun k=>⟨[(2, .iptr (sL s)),(3, .iptr (C4 q)),(5, .fn 88 [.iptr (sL s)]),(6, .ref 2 0),(38, .sl 2 (q.dims.map P8)),(39, .i q.dims.length),(40, .i k)],4,[(2,some (.bx bB [.ref 2 0, .row 3 0 (Ay ++ q.name ++ Da ++ (q.dims.take k).flatMap (d7 s)).length])),(3,some (.row eB 1 0 (O5 (Ay ++ q.name ++ Da ++ (q.dims.take k).flatMap (d7 s)))))]⟩) (fun k=>k ≤ q.dims.length) (fun k=>q.dims.length - k) 0 (Nat.zero_le _)
  (by exact A5 h0 rfl ⟨rfl,rfl,rfl,rfl,rfl,rfl,rfl,trivial⟩ ⟨congrArg (fun z:List UInt8=>H4.bx bB [.ref 2 0, .row 3 0 z.length]) (by rw [List.take_zero,List.flatMap_nil,List.append_nil]),⟨_,congrArg (fun z:List UInt8=>H4.row eB 1 _ (O5 z)) (by rw [List.take_zero,List.flatMap_nil,List.append_nil])⟩,trivial⟩ rfl rfl rfl) (fun k hkl=>?_)
 have hfk:=hfl k
 by_cases hlt:k < q.dims.length
 ·obtain ⟨d,hd⟩:∃ d,q.dims[k]? = some d:=⟨_,List.getElem?_eq_getElem hlt⟩
  have hok:=hds d (List.mem_of_getElem? hd)
  have h1:=CO s d.col hok.1
  have h2:=i7 d.lev (by have:=hok.2;omega) (by have:=hok.2;omega)
  have l1:=Ap hr d.col
  have l2:=Lib.itoa_length_le d.lev (by have:=hok.2;omega) (by have:=hok.2;omega)
  have hsn:=IF (d7 s) q.dims k hd
  have w2:=Fm (Ay ++ q.name ++ Da ++ (q.dims.take k).flatMap (d7 s)) ([32] ++ H7 s d.col ++ [47] ++ Lib.itoa d.lev) (by simp only [List.length_append,List.length_cons,List.length_nil];omega)
  unfold d7 at hsn
  have hsn2:Ay ++ q.name ++ Da ++ (q.dims.take k).flatMap (d7 s) ++ ([32] ++ H7 s d.col ++ [47] ++ Lib.itoa d.lev) = Ay ++ q.name ++ Da ++ (q.dims.take (k + 1)).flatMap (d7 s):=by
   rw [List.append_assoc _ _ ([32] ++ H7 s d.col ++ [47] ++ Lib.itoa d.lev)]
   congr 1
   exact hsn.symm
  clear hc hm hds hl hfl hsn
  generalize Ay ++ q.name ++ Da ++ (q.dims.take k).flatMap (d7 s) = T at *
  generalize H7 s d.col = N1 at *
  generalize Lib.itoa d.lev = N2 at *
  repeat' ((first | (refine E3 10 ?_;refine H6 (id:=10) (σ':=⟨[(2, .iptr (sL s)),(3, .iptr (C4 q)),(5, .fn 88 [.iptr (sL s)]),(6, .ref 2 0),(8, .iptr (P8 d)),(38, .sl 2 (q.dims.map P8)),(39, .i q.dims.length),(40, .i k)],4,[(2,some (.bx bB [.ref 2 0, .row 3 0 (T).length])),(3,some (.row eB 1 0 (O5 (T))))]⟩) (A5 h0 rfl ⟨rfl,rfl,rfl,rfl,rfl,rfl,rfl,rfl,trivial⟩ ⟨rfl,⟨_,rfl⟩,trivial⟩ rfl rfl rfl) ?_;refine F3 (id:=10) ⟨[(2, .iptr (sL s)),(3, .iptr (C4 q)),(5, .fn 88 [.iptr (sL s)]),(6, .ref 2 0),(38, .sl 2 (q.dims.map P8)),(39, .i q.dims.length),(40, .i k)],4,[(2,some (.bx bB [.ref 2 0, .row 3 1 (T ++ ([32] ++ N1 ++ [47] ++ N2)).length])),(3,some (.row eB 1 1 (O5 (T ++ ([32] ++ N1 ++ [47] ++ N2)))))]⟩ ?_ ?_) | (refine B1 (x:=d) hd (by omega) ?_) | refine B0 h1 ?_ | refine B0 h2 ?_ | (refine G2 ?_ ?_;(simp only [List.length_append,List.length_cons,List.length_nil];omega)) |refine A1 ?_|refine S1 ?_|refine Z1 ?_|refine Z2 ?_|(refine And.intro ?_ ?_<;>intro h<;>try first|(exfalso;omega)|exact absurd rfl h)|refine Z3 ?_|refine Z4 ?_|intro el hel hbB|intro el hel|intro ex|refine Z5 ?_|(refine A8 ?_ ?_;exact ⟨by kernel_rfl,by decide⟩)|refine A7 ?_ ?_|exact A6|refine A3 ?_ ?_|exact A2|(refine A0 ?_ ?_ ?_;kernel_rfl;kernel_rfl) | refine nc [2,3] [0,0] w2 rfl rfl rfl ⟨rfl,rfl,trivial⟩ ?_) <;> (try (conv=>whnf)))
  all_goals first
   | exact A5 h0 rfl ⟨rfl,rfl,rfl,rfl,rfl,rfl,rfl,trivial⟩ ⟨rfl,⟨_,rfl⟩,trivial⟩ rfl rfl rfl
   | exact ⟨k + 1,by omega,by omega,A5 h0 rfl ⟨rfl,rfl,rfl,rfl,rfl,rfl,congrArg (fun z:Int=>some (AV.i z)) (by omega),trivial⟩ ⟨congrArg (fun z:List UInt8=>H4.bx bB [.ref 2 0, .row 3 0 z.length]) hsn2.symm,⟨_,congrArg (fun z:List UInt8=>H4.row eB 1 _ (O5 z)) hsn2.symm⟩,trivial⟩ rfl rfl rfl⟩
   | (exfalso;omega)
 ·obtain rfl:k = q.dims.length:=by omega
  rw [List.take_length] at hfk ⊢
  have hne:Ay ++ q.name ++ Da ++ q.dims.flatMap (d7 s) ≠ []:=by simp
  clear hl hfl hds
  by_cases hm0:0 ≤ q.mea
  ·have h1:=CO s q.mea (by omega)
   rw [if_pos hm0]
   have w3:=Fm (Ay ++ q.name ++ Da ++ q.dims.flatMap (d7 s)) (Pt ++ H7 s q.mea) (by simp only [List.length_append,List.length_cons,List.length_nil];omega)
   have g2:=IE (Ay ++ q.name ++ Da ++ q.dims.flatMap (d7 s) ++ (Pt ++ H7 s q.mea)) (di hne)
   generalize H7 s q.mea = M at *
   have ltt:(Ay ++ q.name ++ Da ++ q.dims.flatMap (d7 s)).length ≤ 200:=by simp only [List.length_append,List.length_cons,List.length_nil];omega
   generalize Ay ++ q.name ++ Da ++ q.dims.flatMap (d7 s) = T0 at *
   have lt2:(T0 ++ (Pt ++ M)).length ≤ 300:=by simp only [List.length_append,List.length_cons,List.length_nil];omega
   generalize hT:T0 ++ (Pt ++ M) = T at *
   repeat' ((first | (refine E3 21 ?_;refine H6 (id:=21) (σ':=⟨[(2, .iptr (sL s)),(3, .iptr (C4 q)),(6, .ref 2 0)],4,[(2,some (.bx bB [.ref 2 0, .row 3 0 (T).length])),(3,some (.row eB 1 0 (O5 (T))))]⟩) (A5 h0 rfl ⟨rfl,rfl,rfl,trivial⟩ ⟨rfl,⟨_,rfl⟩,trivial⟩ rfl rfl rfl) ?_;refine F3 (id:=21) ⟨[(4, .str (T ++ J1 ++ F ++ [10]))],4,[]⟩ ?_ ?_) | refine B0 h1 ?_ | refine B0 hc ?_ | (refine G2 ?_ ?_;(simp only [List.length_append,List.length_cons,List.length_nil];omega)) |refine A1 ?_|refine S1 ?_|refine Z1 ?_|refine Z2 ?_|(refine And.intro ?_ ?_<;>intro h<;>try first|(exfalso;omega)|exact absurd rfl h)|refine Z3 ?_|refine Z4 ?_|intro el hel hbB|intro el hel|intro ex|refine Z5 ?_|(refine A8 ?_ ?_;exact ⟨by kernel_rfl,by decide⟩)|refine A7 ?_ ?_|exact A6|refine A3 ?_ ?_|exact A2|(refine A0 ?_ ?_ ?_;kernel_rfl;kernel_rfl) | refine nc [2,3] [0,0] w3 rfl rfl rfl ⟨rfl,rfl,trivial⟩ ?_ | refine nc [2,3] [0,0] g2 rfl rfl rfl ⟨rfl,rfl,trivial⟩ ?_) <;> (try (conv=>whnf)))
   all_goals first
    | exact A5 h0 rfl ⟨rfl,trivial⟩ trivial rfl rfl rfl
    | exact A9 rfl rfl
    | (exfalso;omega)
  ·rw [if_neg hm0,List.append_nil]
   have g2:=IE (Ay ++ q.name ++ Da ++ q.dims.flatMap (d7 s)) hne
   have ltt:(Ay ++ q.name ++ Da ++ q.dims.flatMap (d7 s)).length ≤ 200:=by simp only [List.length_append,List.length_cons,List.length_nil];omega
   generalize Ay ++ q.name ++ Da ++ q.dims.flatMap (d7 s) = T at *
   repeat' ((first | (refine E3 21 ?_;refine H6 (id:=21) (σ':=⟨[(2, .iptr (sL s)),(3, .iptr (C4 q)),(6, .ref 2 0)],4,[(2,some (.bx bB [.ref 2 0, .row 3 0 (T).length])),(3,some (.row eB 1 0 (O5 (T))))]⟩) (A5 h0 rfl ⟨rfl,rfl,rfl,trivial⟩ ⟨rfl,⟨_,rfl⟩,trivial⟩ rfl rfl rfl) ?_;refine F3 (id:=21) ⟨[(4, .str (T ++ J1 ++ F ++ [10]))],4,[]⟩ ?_ ?_) | refine B0 hc ?_ | (refine G2 ?_ ?_;(simp only [List.length_append,List.length_cons,List.length_nil];omega)) |refine A1 ?_|refine S1 ?_|refine Z1 ?_|refine Z2 ?_|(refine And.intro ?_ ?_<;>intro h<;>try first|(exfalso;omega)|exact absurd rfl h)|refine Z3 ?_|refine Z4 ?_|intro el hel hbB|intro el hel|intro ex|refine Z5 ?_|(refine A8 ?_ ?_;exact ⟨by kernel_rfl,by decide⟩)|refine A7 ?_ ?_|exact A6|refine A3 ?_ ?_|exact A2|(refine A0 ?_ ?_ ?_;kernel_rfl;kernel_rfl) | refine nc [2,3] [0,0] g2 rfl rfl rfl ⟨rfl,rfl,trivial⟩ ?_) <;> (try (conv=>whnf)))
   all_goals first
    | exact A5 h0 rfl ⟨rfl,trivial⟩ trivial rfl rfl rfl
    | exact A9 rfl rfl
    | (exfalso;omega)
set_option maxHeartbeats 16000000 in
theorem YZ (s:B2) (hr:C8 s = 0) (q:D3) (hk:q.kind = 2) (hn:q.name.length ≤ 16) (hf:H0 s q.flt = 0) (hdl:q.trms.length ≤ 3) (hds:∀ c ∈ q.trms,0 ≤ c ∧ c < s.cols.length) (hm:0 ≤ q.mea ∧ q.mea < s.cols.length):B3 Tryz.prog 46 [sA s,W7 q] (.str (K3 s q ++ [10])):=by
 have hc:=CN s q.flt hf
 have lf:=Ae hf
 have lm:=Ap hr q.mea
 have h1:=CO s q.mea hm
 unfold K3 Fj
 rw [if_neg (by omega),if_pos hk]
 generalize D6 s q.flt = F at *
 generalize H7 s q.mea = M at *
 have w1:=Gq (BS ++ q.name ++ Y9 ++ M ++ ET) (by simp only [List.length_append,List.length_cons,List.length_nil];omega)
 have hl:∀ k,(q.trms.take k).length ≤ 3:=fun k=>by rw [List.length_take];omega
 have hfl:∀ k,((q.trms.take k).flatMap (p0 s)).length ≤ 51:=fun k=>by
  have h1:=u7 (l:=q.trms.take k) (f:=p0 s) (n:=17) fun d hd=>MG hr d
  have h2:(q.trms.take k).length * 17 ≤ 3 * 17:=Nat.mul_le_mul_right _ (hl k)
  omega
 refine F7 Tryz.func46 99 fun hrd E h0=>?_
 have hlen:q.trms.length ≤ 9223372036854775807:=by omega
 clear hrd
 repeat' ((first | (refine E3 15 ?_;refine H6 (id:=15) (σ':=⟨[(2, .iptr (sL s)),(3, .iptr (C4 q)),(5, .fn 88 [.iptr (sL s)]),(6, .ref 2 0)],3,[(2,some QL)]⟩) (A5 h0 rfl ⟨rfl,rfl,rfl,rfl,trivial⟩ ⟨rfl,trivial⟩ rfl rfl rfl) ?_;refine F3 (id:=15) ⟨[(2, .iptr (sL s)),(3, .iptr (C4 q)),(5, .fn 88 [.iptr (sL s)]),(6, .ref 2 0)],4,[(2,some (.bx bB [.ref 2 0, .row 3 1 (BS ++ q.name ++ Y9 ++ M ++ ET).length])),(3,some (.row eB 1 1 (O5 (BS ++ q.name ++ Y9 ++ M ++ ET))))]⟩ ?_ ?_) | refine DE (T:=87) rfl ?_ | refine B0 h1 ?_ | (refine G2 ?_ ?_;(simp only [List.length_append,List.length_cons,List.length_nil];omega)) |refine A1 ?_|refine S1 ?_|refine Z1 ?_|refine Z2 ?_|(refine And.intro ?_ ?_<;>intro h<;>try first|(exfalso;omega)|exact absurd rfl h)|refine Z3 ?_|refine Z4 ?_|intro el hel hbB|intro el hel|intro ex|refine Z5 ?_|(refine A8 ?_ ?_;exact ⟨by kernel_rfl,by decide⟩)|refine A7 ?_ ?_|exact A6|refine A3 ?_ ?_|exact A2|(refine A0 ?_ ?_ ?_;kernel_rfl;kernel_rfl) | refine nc [2] [0] w1 rfl rfl rfl ⟨rfl,trivial⟩ ?_ | refine Y8 0 ?_) <;> (try (conv=>whnf)))
 all_goals first
  | exact A5 h0 rfl ⟨rfl,rfl,rfl,rfl,trivial⟩ ⟨rfl,⟨_,rfl⟩,trivial⟩ rfl rfl rfl
  | (exfalso;omega)
  | skip
 clear w1 h1
 refine D8 (ι:=Nat) (fun k=>⟨[(2, .iptr (sL s)),(3, .iptr (C4 q)),(5, .fn 88 [.iptr (sL s)]),(6, .ref 2 0),(79, .sl 1 (q.trms.map wA)),(80, .i q.trms.length),(81, .i k)],4,[(2,some (.bx bB [.ref 2 0, .row 3 0 (BS ++ q.name ++ Y9 ++ M ++ ET ++ (q.trms.take k).flatMap (p0 s)).length])),(3,some (.row eB 1 0 (O5 (BS ++ q.name ++ Y9 ++ M ++ ET ++ (q.trms.take k).flatMap (p0 s)))))]⟩) (fun k=>k ≤ q.trms.length) (fun k=>q.trms.length - k) 0 (Nat.zero_le _)
  (by exact A5 h0 rfl ⟨rfl,rfl,rfl,rfl,rfl,rfl,rfl,trivial⟩ ⟨congrArg (fun z:List UInt8=>H4.bx bB [.ref 2 0, .row 3 0 z.length]) (by rw [List.take_zero,List.flatMap_nil,List.append_nil]),⟨_,congrArg (fun z:List UInt8=>H4.row eB 1 _ (O5 z)) (by rw [List.take_zero,List.flatMap_nil,List.append_nil])⟩,trivial⟩ rfl rfl rfl) (fun k hkl=>?_)
 have hfk:=hfl k
 by_cases hlt:k < q.trms.length
 ·obtain ⟨d,hd⟩:∃ d,q.trms[k]? = some d:=⟨_,List.getElem?_eq_getElem hlt⟩
  have hok:=hds d (List.mem_of_getElem? hd)
  have h1:=CO s d hok
  have l1:=Ap hr d
  have hsn:=IF (p0 s) q.trms k hd
  have w2:=Fm (BS ++ q.name ++ Y9 ++ M ++ ET ++ (q.trms.take k).flatMap (p0 s)) ([32] ++ H7 s d) (by simp only [List.length_append,List.length_cons,List.length_nil];omega)
  unfold p0 at hsn
  have hsn2:BS ++ q.name ++ Y9 ++ M ++ ET ++ (q.trms.take k).flatMap (p0 s) ++ ([32] ++ H7 s d) = BS ++ q.name ++ Y9 ++ M ++ ET ++ (q.trms.take (k + 1)).flatMap (p0 s):=by
   rw [List.append_assoc _ _ ([32] ++ H7 s d)]
   congr 1
   exact hsn.symm
  have ltt:(BS ++ q.name ++ Y9 ++ M ++ ET ++ (q.trms.take k).flatMap (p0 s)).length ≤ 200:=by simp only [List.length_append,List.length_cons,List.length_nil];omega
  clear hc hds hl hfl hsn
  generalize BS ++ q.name ++ Y9 ++ M ++ ET ++ (q.trms.take k).flatMap (p0 s) = T at *
  generalize H7 s d = N1 at *
  repeat' ((first | (refine B1 (x:=d) hd (by omega) ?_) | refine B0 h1 ?_ | (refine G2 ?_ ?_;(simp only [List.length_append,List.length_cons,List.length_nil];omega)) |refine A1 ?_|refine S1 ?_|refine Z1 ?_|refine Z2 ?_|(refine And.intro ?_ ?_<;>intro h<;>try first|(exfalso;omega)|exact absurd rfl h)|refine Z3 ?_|refine Z4 ?_|intro el hel hbB|intro el hel|intro ex|refine Z5 ?_|(refine A8 ?_ ?_;exact ⟨by kernel_rfl,by decide⟩)|refine A7 ?_ ?_|exact A6|refine A3 ?_ ?_|exact A2|(refine A0 ?_ ?_ ?_;kernel_rfl;kernel_rfl) | refine nc [2,3] [0,0] w2 rfl rfl rfl ⟨rfl,rfl,trivial⟩ ?_) <;> (try (conv=>whnf)))
  all_goals first
   | exact ⟨k + 1,by omega,by omega,A5 h0 rfl ⟨rfl,rfl,rfl,rfl,rfl,rfl,congrArg (fun z:Int=>some (AV.i z)) (by omega),trivial⟩ ⟨congrArg (fun z:List UInt8=>H4.bx bB [.ref 2 0, .row 3 0 z.length]) hsn2.symm,⟨_,congrArg (fun z:List UInt8=>H4.row eB 1 _ (O5 z)) hsn2.symm⟩,trivial⟩ rfl rfl rfl⟩
   | (exfalso;omega)
 ·obtain rfl:k = q.trms.length:=by omega
  rw [List.take_length] at hfk ⊢
  have hne:BS ++ q.name ++ Y9 ++ M ++ ET ++ q.trms.flatMap (p0 s) ≠ []:=by simp
  clear hl hfl hds
  have g2:=IE (BS ++ q.name ++ Y9 ++ M ++ ET ++ q.trms.flatMap (p0 s)) hne
  have ltt:(BS ++ q.name ++ Y9 ++ M ++ ET ++ q.trms.flatMap (p0 s)).length ≤ 200:=by simp only [List.length_append,List.length_cons,List.length_nil];omega
  generalize BS ++ q.name ++ Y9 ++ M ++ ET ++ q.trms.flatMap (p0 s) = T at *
  repeat' ((first | (refine E3 21 ?_;refine H6 (id:=21) (σ':=⟨[(2, .iptr (sL s)),(3, .iptr (C4 q)),(6, .ref 2 0)],4,[(2,some (.bx bB [.ref 2 0, .row 3 0 (T).length])),(3,some (.row eB 1 0 (O5 (T))))]⟩) (A5 h0 rfl ⟨rfl,rfl,rfl,trivial⟩ ⟨rfl,⟨_,rfl⟩,trivial⟩ rfl rfl rfl) ?_;refine F3 (id:=21) ⟨[(4, .str (T ++ J1 ++ F ++ [10]))],4,[]⟩ ?_ ?_) | refine B0 hc ?_ | (refine G2 ?_ ?_;(simp only [List.length_append,List.length_cons,List.length_nil];omega)) |refine A1 ?_|refine S1 ?_|refine Z1 ?_|refine Z2 ?_|(refine And.intro ?_ ?_<;>intro h<;>try first|(exfalso;omega)|exact absurd rfl h)|refine Z3 ?_|refine Z4 ?_|intro el hel hbB|intro el hel|intro ex|refine Z5 ?_|(refine A8 ?_ ?_;exact ⟨by kernel_rfl,by decide⟩)|refine A7 ?_ ?_|exact A6|refine A3 ?_ ?_|exact A2|(refine A0 ?_ ?_ ?_;kernel_rfl;kernel_rfl) | refine nc [2,3] [0,0] g2 rfl rfl rfl ⟨rfl,rfl,trivial⟩ ?_) <;> (try (conv=>whnf)))
  all_goals first
   | exact A5 h0 rfl ⟨rfl,trivial⟩ trivial rfl rfl rfl
   | exact A9 rfl rfl
   | (exfalso;omega)
set_option maxHeartbeats 16000000 in
theorem Ya (s:B2) (hr:C8 s = 0) (q:D3) (hk:q.kind = 3) (hn:q.name.length ≤ 16) (hf:H0 s q.flt = 0) (hv:H0 s q.evt = 0) (hm:0 ≤ q.mea ∧ q.mea < s.cols.length):B3 Tryz.prog 46 [sA s,W7 q] (.str (K3 s q ++ [10])):=by
 have hc:=CN s q.flt hf
 have hcv:=CN s q.evt hv
 have lf:=Ae hf
 have lv:=Ae hv
 have lm:=Ap hr q.mea
 have h1:=CO s q.mea hm
 unfold K3 Fj
 rw [if_neg (by omega),if_neg (by omega)]
 generalize D6 s q.flt = F at *
 generalize D6 s q.evt = V at *
 generalize H7 s q.mea = M at *
 have ltt:(MC ++ q.name ++ Y9 ++ M ++ MD ++ V).length ≤ 4200:=by simp only [List.length_append,List.length_cons,List.length_nil];omega
 have w1:=Gq (MC ++ q.name ++ Y9 ++ M ++ MD ++ V) (by omega)
 have hne:MC ++ q.name ++ Y9 ++ M ++ MD ++ V ≠ []:=by simp
 have g2:=IE (MC ++ q.name ++ Y9 ++ M ++ MD ++ V) hne
 generalize hT:MC ++ q.name ++ Y9 ++ M ++ MD ++ V = T at *
 refine F7 Tryz.func46 99 fun hrd E h0=>?_
 clear hrd
 repeat' ((first | (refine E3 4 ?_;refine H6 (id:=4) (σ':=⟨[(2, .iptr (sL s)),(3, .iptr (C4 q)),(5, .fn 88 [.iptr (sL s)]),(6, .ref 2 0)],3,[(2,some QL)]⟩) (A5 h0 rfl ⟨rfl,rfl,rfl,rfl,trivial⟩ ⟨rfl,trivial⟩ rfl rfl rfl) ?_;refine F3 (id:=4) ⟨[(2, .iptr (sL s)),(3, .iptr (C4 q)),(5, .fn 88 [.iptr (sL s)]),(6, .ref 2 0)],4,[(2,some (.bx bB [.ref 2 0, .row 3 1 (T).length])),(3,some (.row eB 1 1 (O5 (T))))]⟩ ?_ ?_) | (refine E3 21 ?_;refine H6 (id:=21) (σ':=⟨[(2, .iptr (sL s)),(3, .iptr (C4 q)),(6, .ref 2 0)],4,[(2,some (.bx bB [.ref 2 0, .row 3 0 (T).length])),(3,some (.row eB 1 0 (O5 (T))))]⟩) (A5 h0 rfl ⟨rfl,rfl,rfl,trivial⟩ ⟨rfl,⟨_,rfl⟩,trivial⟩ rfl rfl rfl) ?_;refine F3 (id:=21) ⟨[(4, .str (T ++ J1 ++ F ++ [10]))],4,[]⟩ ?_ ?_) | refine DE (T:=87) rfl ?_ | refine B0 h1 ?_ | refine B0 hc ?_ | refine B0 hcv ?_ | (refine G2 ?_ ?_;(simp only [List.length_append,List.length_cons,List.length_nil];omega)) |refine A1 ?_|refine S1 ?_|refine Z1 ?_|refine Z2 ?_|(refine And.intro ?_ ?_<;>intro h<;>try first|(exfalso;omega)|exact absurd rfl h)|refine Z3 ?_|refine Z4 ?_|intro el hel hbB|intro el hel|intro ex|refine Z5 ?_|(refine A8 ?_ ?_;exact ⟨by kernel_rfl,by decide⟩)|refine A7 ?_ ?_|exact A6|refine A3 ?_ ?_|exact A2|(refine A0 ?_ ?_ ?_;kernel_rfl;kernel_rfl) | (rw [hT];refine nc [2] [0] w1 rfl rfl rfl ⟨rfl,trivial⟩ ?_) | refine nc [2,3] [0,0] g2 rfl rfl rfl ⟨rfl,rfl,trivial⟩ ?_ | refine Y8 0 ?_) <;> (try (conv=>whnf)))
 all_goals first
  | exact A5 h0 rfl ⟨rfl,rfl,rfl,rfl,trivial⟩ ⟨rfl,⟨_,rfl⟩,trivial⟩ rfl rfl rfl
  | exact A5 h0 rfl ⟨rfl,trivial⟩ trivial rfl rfl rfl
  | exact A9 rfl rfl
  | (exfalso;omega)
theorem WA (s:B2) (hr:C8 s = 0) (q:D3) (h:Dq s q):B3 Tryz.prog 46 [sA s,W7 q] (.str (K3 s q ++ [10])):=by
 have hn:=T9 h.name
 rcases h.kind with ⟨k,⟨_,d2,d3⟩,m,_⟩ | ⟨k,m,⟨_,d2,d3⟩,_⟩ | ⟨k,m,d2,_⟩
 ·exact YY s hr q k hn h.flt d2 d3 m
 ·exact YZ s hr q k hn h.flt d2 d3 m
 ·exact Ya s hr q k hn h.flt d2 m
theorem bT (s:B2) (d:F4):N6 s d = Gh ++ d.prj ++ YC ++ d.src ++ YD ++ D6 s d.coh ++ [10]:=rfl
set_option maxHeartbeats 16000000 in
theorem DF (s:B2) (d:F4):B3 Tryz.prog 18 [sA s,M5 d] (.tup [.str (Hr s d).1, .i (Hr s d).2]):=by
 have h1:=DD s d
 unfold Hr
 by_cases h:U8 s d = 0
 case neg =>
  rw [if_neg h]
  generalize U8 s d = z at *
  dsimp only
  refine F7 Tryz.func18 65 fun hrd E h0=>?_
  clear hrd
  repeat' ((first | refine B0 h1 ?_ |refine A1 ?_|refine S1 ?_|refine Z1 ?_|refine Z2 ?_|(refine And.intro ?_ ?_<;>intro h<;>try first|(exfalso;omega)|exact absurd rfl h)|refine Z3 ?_|refine Z4 ?_|intro el hel hbB|intro el hel|intro ex|refine Z5 ?_|(refine A8 ?_ ?_;exact ⟨by kernel_rfl,by decide⟩)|refine A7 ?_ ?_|exact A6|refine A3 ?_ ?_|exact A2|(refine A0 ?_ ?_ ?_;kernel_rfl;kernel_rfl)) <;> (try (conv=>whnf)))
  all_goals first
   | exact a7 rfl rfl rfl
   | (exfalso;omega)
 rw [if_pos h]
 have hok:=(BU s d).1 h
 rw [h] at h1
 have hr:=hok.sch
 have hqk:∀ q ∈ d.qs,Dq s q:=fun q hq=>by
  obtain ⟨i,hi⟩:=List.mem_iff_getElem?.1 hq
  exact (Ih (hok.qs i q hi).1).2
 have lt:=YF hok
 have ls:=Pw hok
 have hql:=hok.len
 have hnum:=hok.num
 have hll:∀ k,(d.qs.take k).length ≤ 8:=fun k=>by rw [List.length_take];omega
 have lq:∀ k,(G5 s (d.qs.take k)).length ≤ 70000:=fun k=>Vp hr (hll k) fun q hq=>hqk q (List.mem_of_mem_take hq)
 have hc:=CN s d.coh hok.coh
 have l1:=T9 hok.prj
 have l2:=T9 hok.src
 have l3:=Ae hok.coh
 have i1:=i7 d.part (by omega) (by omega)
 have i2:=i7 d.of (by omega) (by omega)
 have i3:=i7 d.seed (by omega) (by omega)
 have m1:=Lib.itoa_length_le d.part (by omega) (by omega)
 have m2:=Lib.itoa_length_le d.of (by omega) (by omega)
 have m3:=Lib.itoa_length_le d.seed (by omega) (by omega)
 generalize hZ:(if 20000 < (N7 s d).length then (([]:List UInt8),(1:Int)) else (N7 s d,0)) = Z
 have w1:=Gq (Gh ++ d.prj ++ YC ++ d.src ++ YD ++ D6 s d.coh ++ [10]) (by simp only [List.length_append,List.length_cons,List.length_nil];omega)
 have w2:=Fm (N6 s d) (EU ++ Lib.itoa d.part ++ Y9 ++ Lib.itoa d.of ++ CJ ++ Lib.itoa d.seed ++ [10]) (by simp only [List.length_append,List.length_cons,List.length_nil];omega)
 have et:=bT s d
 have hTD:N7 s d = N6 s d ++ (EU ++ Lib.itoa d.part ++ Y9 ++ Lib.itoa d.of ++ CJ ++ Lib.itoa d.seed ++ [10]) ++ G5 s d.qs:=rfl
 generalize N6 s d = T1 at *
 generalize Lib.itoa d.part = N1 at *
 generalize Lib.itoa d.of = N2 at *
 generalize Lib.itoa d.seed = N3 at *
 clear h hok
 refine F7 Tryz.func18 65 fun hrd E h0=>?_
 have hlen:d.qs.length ≤ 9223372036854775807:=by omega
 clear hrd
 repeat' ((first | (refine E3 5 ?_;refine H6 (id:=5) (σ':=⟨[(2, .iptr (sL s)),(3, .iptr (k0 d)),(7, .ref 2 0)],3,[(2,some QL)]⟩) (A5 h0 rfl ⟨rfl,rfl,rfl,trivial⟩ ⟨rfl,trivial⟩ rfl rfl rfl) ?_;refine F3 (id:=5) ⟨[(2, .iptr (sL s)),(3, .iptr (k0 d)),(7, .ref 2 0)],4,[(2,some (.bx bB [.ref 2 0, .row 3 1 (T1).length])),(3,some (.row eB 1 1 (O5 (T1))))]⟩ ?_ ?_) | (refine E3 6 ?_;refine H6 (id:=6) (σ':=⟨[(2, .iptr (sL s)),(3, .iptr (k0 d)),(7, .ref 2 0)],4,[(2,some (.bx bB [.ref 2 0, .row 3 0 (T1).length])),(3,some (.row eB 1 0 (O5 (T1))))]⟩) (A5 h0 rfl ⟨rfl,rfl,rfl,trivial⟩ ⟨rfl,⟨_,rfl⟩,trivial⟩ rfl rfl rfl) ?_;refine F3 (id:=6) ⟨[(2, .iptr (sL s)),(3, .iptr (k0 d)),(7, .ref 2 0)],4,[(2,some (.bx bB [.ref 2 0, .row 3 1 (T1 ++ (EU ++ N1 ++ Y9 ++ N2 ++ CJ ++ N3 ++ [10])).length])),(3,some (.row eB 1 1 (O5 (T1 ++ (EU ++ N1 ++ Y9 ++ N2 ++ CJ ++ N3 ++ [10])))))]⟩ ?_ ?_) | refine DE (T:=87) rfl ?_ | refine B0 h1 ?_ | refine B0 hc ?_ | refine B0 i1 ?_ | refine B0 i2 ?_ | refine B0 i3 ?_ | (refine G2 ?_ ?_;(simp only [List.length_append,List.length_cons,List.length_nil];omega)) |refine A1 ?_|refine S1 ?_|refine Z1 ?_|refine Z2 ?_|(refine And.intro ?_ ?_<;>intro h<;>try first|(exfalso;omega)|exact absurd rfl h)|refine Z3 ?_|refine Z4 ?_|intro el hel hbB|intro el hel|intro ex|refine Z5 ?_|(refine A8 ?_ ?_;exact ⟨by kernel_rfl,by decide⟩)|refine A7 ?_ ?_|exact A6|refine A3 ?_ ?_|exact A2|(refine A0 ?_ ?_ ?_;kernel_rfl;kernel_rfl) | refine nc [2] [0] w1 rfl rfl rfl ⟨rfl,trivial⟩ ?_ | refine nc [2,3] [0,0] w2 rfl rfl rfl ⟨rfl,rfl,trivial⟩ ?_) <;> (try (conv=>whnf)))
 all_goals first
  | exact A5 h0 rfl ⟨rfl,rfl,rfl,trivial⟩ ⟨congrArg (fun z:List UInt8=>H4.bx bB [.ref 2 0, .row 3 1 z.length]) et,⟨_,congrArg (fun z:List UInt8=>H4.row eB 1 _ (O5 z)) et⟩,trivial⟩ rfl rfl rfl
  | exact A5 h0 rfl ⟨rfl,rfl,rfl,trivial⟩ ⟨rfl,⟨_,rfl⟩,trivial⟩ rfl rfl rfl
  | (exfalso;omega)
  | skip
 clear w1 w2 hc i1 i2 i3 h1
 have hdt:∀ k,T1 ++ (EU ++ N1 ++ Y9 ++ N2 ++ CJ ++ N3 ++ [10]) ++ G5 s (d.qs.take k) ≠ []:=fun k=>by rw [et];simp
 have hLen:(T1 ++ (EU ++ N1 ++ Y9 ++ N2 ++ CJ ++ N3 ++ [10])).length ≤ 4300:=by simp only [List.length_append,List.length_cons,List.length_nil];omega
 have hD:N7 s d = T1 ++ (EU ++ N1 ++ Y9 ++ N2 ++ CJ ++ N3 ++ [10]) ++ G5 s d.qs:=hTD
 clear et
 generalize T1 ++ (EU ++ N1 ++ Y9 ++ N2 ++ CJ ++ N3 ++ [10]) = T2 at *
 refine D8 (ι:=Nat) (fun k=>⟨[(2, .iptr (sL s)),(7, .ref 2 0),(51, .sl 17 (d.qs.map C4)),(52, .i d.qs.length),(53, .i k)],4,[(2,some (.bx bB [.ref 2 0, .row 3 0 (T2 ++ G5 s (d.qs.take k)).length])),(3,some (.row eB 1 0 (O5 (T2 ++ G5 s (d.qs.take k)))))]⟩) (fun k=>k ≤ d.qs.length) (fun k=>d.qs.length - k) 0 (Nat.zero_le _)
  (by exact A5 h0 rfl ⟨rfl,rfl,rfl,rfl,rfl,trivial⟩ ⟨congrArg (fun z:List UInt8=>H4.bx bB [.ref 2 0, .row 3 0 z.length]) (by rw [List.take_zero];exact List.append_nil _),⟨_,congrArg (fun z:List UInt8=>H4.row eB 1 _ (O5 z)) (by rw [List.take_zero];exact List.append_nil _)⟩,trivial⟩ rfl rfl rfl) (fun k hkl=>?_)
 have hfk:=lq k
 have hnk:=hdt k
 by_cases hlt:k < d.qs.length
 ·obtain ⟨x,hx⟩:∃ x,d.qs[k]? = some x:=⟨_,List.getElem?_eq_getElem hlt⟩
  have hxk:=hqk x (List.mem_of_getElem? hx)
  have h1:=WA s hr x hxk
  have l4:=Pv hr hxk
  have hsn:=IF (fun q=>K3 s q ++ [10]) d.qs k hx
  have w2:=Fm (T2 ++ G5 s (d.qs.take k)) (K3 s x ++ [10]) (by simp only [List.length_append,List.length_cons,List.length_nil];omega)
  have hsn2:T2 ++ G5 s (d.qs.take k) ++ (K3 s x ++ [10]) = T2 ++ G5 s (d.qs.take (k + 1)):=by
   rw [List.append_assoc _ _ (K3 s x ++ [10])]
   congr 1
   exact hsn.symm
  clear hqk hll lq hsn hD hZ
  generalize T2 ++ G5 s (d.qs.take k) = T at *
  generalize K3 s x ++ [10] = N at *
  repeat' ((first | (refine B1 (x:=x) hx (by omega) ?_) | refine B0 h1 ?_ |refine A1 ?_|refine S1 ?_|refine Z1 ?_|refine Z2 ?_|(refine And.intro ?_ ?_<;>intro h<;>try first|(exfalso;omega)|exact absurd rfl h)|refine Z3 ?_|refine Z4 ?_|intro el hel hbB|intro el hel|intro ex|refine Z5 ?_|(refine A8 ?_ ?_;exact ⟨by kernel_rfl,by decide⟩)|refine A7 ?_ ?_|exact A6|refine A3 ?_ ?_|exact A2|(refine A0 ?_ ?_ ?_;kernel_rfl;kernel_rfl) | refine nc [2,3] [0,0] w2 rfl rfl rfl ⟨rfl,rfl,trivial⟩ ?_) <;> (try (conv=>whnf)))
  all_goals first
   | exact ⟨k + 1,by omega,by omega,A5 h0 rfl ⟨rfl,rfl,rfl,rfl,congrArg (fun z:Int=>some (AV.i z)) (by omega),trivial⟩ ⟨congrArg (fun z:List UInt8=>H4.bx bB [.ref 2 0, .row 3 0 z.length]) hsn2.symm,⟨_,congrArg (fun z:List UInt8=>H4.row eB 1 _ (O5 z)) hsn2.symm⟩,trivial⟩ rfl rfl rfl⟩
   | (exfalso;omega)
 ·obtain rfl:k = d.qs.length:=by omega
  rw [List.take_length] at hfk hnk ⊢
  rw [hD] at hZ
  have g1:=dh eB (T2 ++ G5 s d.qs).length (O5 (T2 ++ G5 s d.qs))
  have g2:=IE (T2 ++ G5 s d.qs) hnk
  have l5:(T2 ++ G5 s d.qs).length ≤ 80000:=by rw [List.length_append];omega
  clear hqk hll lq hD hdt
  generalize T2 ++ G5 s d.qs = T at *
  repeat' ((first|refine A1 ?_|refine S1 ?_|refine Z1 ?_|refine Z2 ?_|(refine And.intro ?_ ?_<;>intro h<;>try first|(exfalso;omega)|exact absurd rfl h)|refine Z3 ?_|refine Z4 ?_|intro el hel hbB|intro el hel|intro ex|refine Z5 ?_|(refine A8 ?_ ?_;exact ⟨by kernel_rfl,by decide⟩)|refine A7 ?_ ?_|exact A6|refine A3 ?_ ?_|exact A2|(refine A0 ?_ ?_ ?_;kernel_rfl;kernel_rfl) | refine nc [2,3] [0,0] g1 rfl rfl rfl ⟨rfl,rfl,trivial⟩ ?_ | refine nc [2,3] [0,1] g2 rfl rfl rfl ⟨rfl,rfl,trivial⟩ ?_) <;> (try (conv=>whnf)))
  all_goals first
   | (rw [if_pos (by omega)] at hZ;subst hZ;exact a7 rfl rfl rfl)
   | (rw [if_neg (by omega)] at hZ;subst hZ;exact a7 rfl rfl rfl)
   | (exfalso;omega)
end Go.Proofs.YthkklceofokkmaaGreatDoor
