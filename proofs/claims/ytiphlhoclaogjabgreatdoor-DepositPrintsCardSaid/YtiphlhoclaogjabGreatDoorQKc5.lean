/- Chapter 3: the program's Parse. -/
import Derived.Test.YtiphlhoclaogjabGreatDoorQKd4
import Derived.Test.YtiphlhoclaogjabGreatDoorQXc
import Derived.Test.YtiphlhoclaogjabGreatDoorQF7
set_option linter.unusedVariables false
set_option linter.unnecessarySimpa false
set_option linter.unusedSimpArgs false
namespace Go.Proofs.YtiphlhoclaogjabGreatDoor
open Go Go.Av
attribute [local irreducible] D1 B5 D5 D3 DQ D7 E0 St.le B3 B6
set_option maxRecDepth 100000
abbrev Az:Nat:=26
theorem k6:NL (.agg [.v (.slice none 0 0), .v (.slice none 0 0)]) (sA ⟨[],[]⟩):=RV ⟨.nil 2, .nil 7,trivial⟩
theorem Yq (w:List UInt8):Lib.cut w [10] = (w.takeWhile (C8 10),(w.dropWhile (C8 10)).drop 1,decide (w.dropWhile (C8 10) ≠ [])):=OU 10 w
def Ey (g:Bool) (ls:List CL):C0:=match g with
 | true=>.row (G4 + N5) 2 0 (OT ls)
 | false=>.row N5 2 0 (ls.map F2)
abbrev pB (g:Bool) (r:D6):Hp:=[(0,some (.box [.v (.slice none 0 0), .v (.slice none 0 0)])),(1,some (.box [.row 2 0 r.lists.length, .row 3 0 r.cols.length, .row 4 0 r.rows.length, .i r.st])),(2,some (Ey g r.lists)),(3,some (.row O6 7 0 (r.cols.map C2))),(4,some (.row S7 1 0 (r.rows.map D8)))]
abbrev pS (t0:List UInt8) (g:Bool) (r:D6) (n a:Nat):St:=⟨[(0, .str t0),(2, .ref 0 0),(6, .ref 1 0),(7, .i a),(8, .i n)],5,pB g r⟩
theorem Ux {E:Env} {n:Nat} {t0:List UInt8} {r:D6} {k a:Nat} (h0:E.n0 = 0):St.le E n (pS t0 true r k a) (pS t0 false r k a) :=
 C7 (Ju (i:=2) (l':=r.lists.map F2) (.inl rfl) rfl (by decide) (JE r.lists)) (A8 h0 rfl ⟨rfl,rfl,rfl,rfl,rfl,trivial⟩ ⟨rfl,rfl,⟨_,rfl⟩,⟨_,rfl⟩,⟨_,rfl⟩,trivial⟩ rfl rfl rfl)
theorem Yr (n0:Nat) (t0 w0:List UInt8) (h0:w0 ∈ T5 [32] n0 t0):w0.length ≤ t0.length:=by
 have key:∀ (n:Nat) (t:List UInt8),∀ w ∈ T5 [32] n t,w.length ≤ t.length:=fun n=>by
  induction n with
  | zero=>intro t w hw;rw [T5,List.mem_singleton] at hw;subst hw;exact Nat.le_refl _
  | succ n ih =>
    intro t w hw
    rw [T5] at hw
    cases hc:n8 [32] t with
    | none=>rw [hc] at hw;dsimp only at hw;rw [List.mem_singleton] at hw;subst hw;exact Nat.le_refl _
    | some z =>
      obtain ⟨x,y⟩:=z
      rw [hc] at hw
      dsimp only at hw
      have hinv:=GZ hc
      have hlen:t.length = x.length + 1 + y.length:=by rw [hinv];simp only [List.length_append,List.length_singleton]
      rcases List.mem_cons.1 hw with rfl | hw
      ·omega
      ·have:=ih y w hw;omega
 exact key _ _ _ h0
theorem JH (t:List UInt8):(t.takeWhile (C8 10)).length ≤ t.length:=by
 have e:=congrArg List.length (Mg 10 t)
 rw [List.length_append] at e
 omega
theorem Uy (t:List UInt8):(t.takeWhile (C8 10)).length + (if t.dropWhile (C8 10) = [] then 0 else 1 + ((t.dropWhile (C8 10)).drop 1).length) = t.length:=by
 have e:=congrArg List.length (Mg 10 t)
 rw [List.length_append] at e
 by_cases h:t.dropWhile (C8 10) = []
 ·rw [if_pos h];rw [h] at e;simpa using e
 ·rw [if_neg h]
  have h2:=congrArg List.length (JD h)
  rw [List.length_cons] at h2
  omega
set_option maxHeartbeats 8000000 in
theorem Pv (t0:List UInt8) (hl:20000 < t0.length):B3 Tryz.prog 14 [.str t0] (.tup [sA ⟨[],[]⟩, .sl 1 (([]:List (List Int)).map D8), .i (0:Nat), .i 1]):=by
 refine F3 Tryz.func14 112 fun hrd E h0=>?_
 clear hrd
 repeat' ((first|refine A1 ?_|refine S1 ?_|refine Z1 ?_|refine Z2 ?_|(refine And.intro ?_ ?_<;>intro h<;>try first|(exfalso;omega)|exact absurd rfl h)|refine Z3 ?_|refine Z4 ?_|intro el hel hbB|intro el hel|intro ex|refine Z5 ?_|(refine A6 ?_ ?_;exact ⟨by kernel_rfl,by decide⟩)|refine A5 ?_ ?_|exact A4|refine A3 ?_ ?_|exact A2|(refine A0 ?_ ?_ ?_;kernel_rfl;kernel_rfl)) <;> (try (conv=>whnf)))
 all_goals first
  | (exfalso;omega)
  | exact K7 (rs:=[.cell 2 Az, .tmp 3, .tmp 4, .tmp 5]) (vs:=[_,_,_,_]) rfl ⟨P1 rfl rfl rfl k6,⟨_,rfl, .nil 1⟩,⟨_,rfl, .refl _⟩,⟨_,rfl, .refl _⟩,trivial⟩ rfl
set_option maxHeartbeats 64000000 in
theorem BQ (t0:List UInt8):B3 Tryz.prog 14 [.str t0] (.tup [sA (a8 t0).1.1, .sl 1 ((a8 t0).1.2.map D8), .i (a8 t0).2.1, .i (a8 t0).2.2]):=by
 unfold a8
 by_cases hl:20000 < t0.length
 ·rw [if_pos hl];exact Pv t0 hl
 rw [if_neg hl]
 generalize hZ:M9 (t0.length + 1) z3 1 [] t0 = Z
 obtain ⟨Zr,Zn,Ze⟩:=Z
 dsimp only
 have hE1:¬ Ze = 0 → (if ¬ Ze = 0 then (((⟨[],[]⟩,[]),Zn,Ze):(B8 × List (List Int)) × Nat × Int) else if ¬ (L3 ⟨Zr.lists,Zr.cols⟩ Zr.rows).2 = 0 then ((⟨[],[]⟩,[]),0,(L3 ⟨Zr.lists,Zr.cols⟩ Zr.rows).2) else ((⟨Zr.lists,Zr.cols⟩,Zr.rows),0,0)) = ((⟨[],[]⟩,[]),Zn,Ze):=fun h=>if_pos h
 have hE2:Ze = 0 → ¬ (L3 ⟨Zr.lists,Zr.cols⟩ Zr.rows).2 = 0 → (if ¬ Ze = 0 then (((⟨[],[]⟩,[]),Zn,Ze):(B8 × List (List Int)) × Nat × Int) else if ¬ (L3 ⟨Zr.lists,Zr.cols⟩ Zr.rows).2 = 0 then ((⟨[],[]⟩,[]),0,(L3 ⟨Zr.lists,Zr.cols⟩ Zr.rows).2) else ((⟨Zr.lists,Zr.cols⟩,Zr.rows),0,0)) = ((⟨[],[]⟩,[]),0,(L3 ⟨Zr.lists,Zr.cols⟩ Zr.rows).2):=fun h g=>by rw [if_neg (fun k=>k h),if_pos g]
 have hE3:Ze = 0 → (L3 ⟨Zr.lists,Zr.cols⟩ Zr.rows).2 = 0 → (if ¬ Ze = 0 then (((⟨[],[]⟩,[]),Zn,Ze):(B8 × List (List Int)) × Nat × Int) else if ¬ (L3 ⟨Zr.lists,Zr.cols⟩ Zr.rows).2 = 0 then ((⟨[],[]⟩,[]),0,(L3 ⟨Zr.lists,Zr.cols⟩ Zr.rows).2) else ((⟨Zr.lists,Zr.cols⟩,Zr.rows),0,0)) = ((⟨Zr.lists,Zr.cols⟩,Zr.rows),0,0):=fun h g=>by rw [if_neg (fun k=>k h),if_neg (fun k=>k g)]
 generalize hX:(if ¬ Ze = 0 then (((⟨[],[]⟩,[]),Zn,Ze):(B8 × List (List Int)) × Nat × Int) else if ¬ (L3 ⟨Zr.lists,Zr.cols⟩ Zr.rows).2 = 0 then ((⟨[],[]⟩,[]),0,(L3 ⟨Zr.lists,Zr.cols⟩ Zr.rows).2) else ((⟨Zr.lists,Zr.cols⟩,Zr.rows),0,0)) = X at *
 clear hX
 refine F3 Tryz.func14 112 fun hrd E h0=>?_
 clear hrd
 repeat' ((first|refine A1 ?_|refine S1 ?_|refine Z1 ?_|refine Z2 ?_|(refine And.intro ?_ ?_<;>intro h<;>try first|(exfalso;omega)|exact absurd rfl h)|refine Z3 ?_|refine Z4 ?_|intro el hel hbB|intro el hel|intro ex|refine Z5 ?_|(refine A6 ?_ ?_;exact ⟨by kernel_rfl,by decide⟩)|refine A5 ?_ ?_|exact A4|refine A3 ?_ ?_|exact A2|(refine A0 ?_ ?_ ?_;kernel_rfl;kernel_rfl)) <;> (try (conv=>whnf)))
 all_goals first
  | (exfalso;omega)
  | skip
 refine C5 (ι:=Bool × D6 × Nat × List UInt8 × List UInt8 × Nat) (fun x=>pS t0 x.1 x.2.1 x.2.2.1 x.2.2.2.1.length) (fun x=>t0 = x.2.2.2.1 ++ x.2.2.2.2.1 ∧ x.2.2.2.2.1.length < x.2.2.2.2.2 ∧ 1 ≤ x.2.2.1 ∧ x.2.2.1 + x.2.2.2.2.1.length ≤ 20001 ∧ k5 x.2.1 ≤ x.2.2.1 ∧ (x.1 = true → x.2.1.st = 0) ∧ (x.1 = false → ¬ x.2.1.st = 0) ∧ M9 x.2.2.2.2.2 x.2.1 x.2.2.1 x.2.2.2.1 x.2.2.2.2.1 = (Zr,Zn,Ze)) (fun x=>x.2.2.2.2.1.length) (true,z3,1,[],t0,t0.length + 1) ⟨rfl,by dsimp only;omega,by dsimp only;omega,by dsimp only;omega,Nat.zero_le _,fun _=>rfl,(fun h=>by cases h),hZ⟩
  (by
   refine C7 (Er 1 0 (e:=N5) (sz:=2) rfl rfl) ?_
   refine C7 (Er 1 1 (e:=O6) (sz:=7) rfl rfl) ?_
   refine C7 (Er 1 2 (e:=S7) (sz:=1) rfl rfl) ?_
   refine C7 (OO (i:=2) (F:=G4) (l':=[]) (.inl rfl) rfl (fun h=>absurd h (by decide)) (by decide) ⟨rfl,fun k b hb=>by simp at hb⟩) ?_
   exact A8 h0 rfl ⟨rfl,rfl,rfl,rfl,rfl,trivial⟩ ⟨rfl,rfl,⟨_,rfl⟩,⟨_,rfl⟩,⟨_,rfl⟩,trivial⟩ rfl rfl rfl) (fun x hI=>?_)
 obtain ⟨g,r,n,p,t,f⟩:=x
 obtain ⟨i1,i2,i3,i4,i5,i6,i7,i8⟩:=hI
 dsimp only at i1 i2 i3 i4 i5 i6 i7 i8 ⊢
 clear hZ
 obtain ⟨f,rfl⟩:∃ g,f = g + 1:=⟨f - 1,by omega⟩
 rw [M9] at i8
 have hlen:t0.length = p.length + t.length:=by rw [i1,List.length_append]
 have hraw:List.drop (p.length:Int).toNat (List.take (t0.length:Int).toNat t0) = t:=by
  rw [Int.toNat_natCast,Int.toNat_natCast,List.take_length,i1,List.drop_left]
 have hraw2:List.drop ((0:Nat):Int).toNat (List.take (p.length:Int).toNat t0) = p:=by
  rw [Int.toNat_natCast,Int.toNat_natCast,i1,List.take_left];rfl
 have hll:=Uy t
 have c1:B3 Tryz.prog 37 [.str (List.drop (p.length:Int).toNat (List.take (t0.length:Int).toNat t0)), .str [10]] (.tup [.str (t.takeWhile (C8 10)), .str ((t.dropWhile (C8 10)).drop 1), .b (decide (t.dropWhile (C8 10) ≠ []))]):=by
  rw [hraw]
  have h:=Tl t [10] (by omega)
  rw [Yq] at h
  exact h
 have c4:B3 Tryz.prog 12 [.str (List.drop ((0:Nat):Int).toNat (List.take (p.length:Int).toNat t0))] (.i (M8 p)):=by
  rw [hraw2]
  exact Br p (by omega)
 have hl1:(t.takeWhile (C8 10)).length ≤ 20000:=by
  have:=JH t
  omega
 have c2:B3 Tryz.prog 38 [.str (t.takeWhile (C8 10)), .str [32]] (.sl 1 ((U8 [32] (t.takeWhile (C8 10))).map E2)):=Pt (t.takeWhile (C8 10)) [32] (by omega) (by simp)
 have hwl:∀ z ∈ U8 [32] (t.takeWhile (C8 10)),z.length ≤ 20000:=fun z hz=>Nat.le_trans (Yr _ _ z hz) hl1
 have hwn:(U8 [32] (t.takeWhile (C8 10))).length ≤ 20001:=Nat.le_trans (Ga [32] _ _) (by omega)
 have hwp:0 < (U8 [32] (t.takeWhile (C8 10))).length:=List.length_pos_iff.2 (OP [32] _ _)
 have hp2:t.dropWhile (C8 10) ≠ [] → (p ++ t.takeWhile (C8 10) ++ [10]) ++ (t.dropWhile (C8 10)).drop 1 = t0:=fun h=>by
  rw [i1]
  have:=SR h
  conv=>rhs;rw [this]
  simp only [List.append_assoc]
 clear hraw hraw2
 generalize hD:t.dropWhile (C8 10) = D at *
 generalize D.drop 1 = u at *
 generalize t.takeWhile (C8 10) = l at *
 generalize U8 [32] l = w at *
 have c3:=KT w []
 have g0:=H1 (ws:=w) (i:=0) hwp
 obtain ⟨s1,s2,s3,s4⟩:=SS r
 have hbd:n ≤ 20001:=by omega
 generalize hb1:decide (D ≠ []) = b1 at *
 generalize hb3:decide ([] ∈ w) = b3 at *
 have hE0:(n:Int) ≤ 20001:=by omega
 -- a line of lists while lists are read
 by_cases hgL:g = true ∧ Mj w
 ·obtain ⟨rfl,hL⟩:=hgL
  have hst:=i6 rfl
  have hns:¬ B9 w 0 = Y6:=fun e=>by
   rcases hL with h | h <;> rw [e] at h <;> revert h <;> decide
  have hnsI:=hns
  rw [if_neg hns] at i8
  clear c4
  by_cases hA:D = [] ∨ [] ∈ w
  ·dsimp only [pS,pB,Ey]
   rw [if_pos hA] at i8
   simp only [Prod.mk.injEq] at i8
   obtain ⟨rfl,rfl,rfl⟩:=i8
   obtain rfl:=hE1 (by decide)
   clear hE1 hE2 hE3
   have hA2:b1 = true → b3 = false → False:=fun h1 h3=>by
    rw [← hb1] at h1
    rw [← hb3] at h3
    rcases hA with h | h
    ·exact of_decide_eq_true h1 h
    ·exact of_decide_eq_false h3 h
   clear hA
   repeat' ((first | refine A9 c1 ?_ | refine A9 c2 ?_ | refine A9 c3 ?_ | (refine A7 (x:=B9 w 0) g0 (by omega) ?_) |refine A1 ?_|refine S1 ?_|refine Z1 ?_|refine Z2 ?_|(refine And.intro ?_ ?_<;>intro h<;>try first|(exfalso;omega)|exact absurd rfl h)|refine Z3 ?_|refine Z4 ?_|intro el hel hbB|intro el hel|intro ex|refine Z5 ?_|(refine A6 ?_ ?_;exact ⟨by kernel_rfl,by decide⟩)|refine A5 ?_ ?_|exact A4|refine A3 ?_ ?_|exact A2|(refine A0 ?_ ?_ ?_;kernel_rfl;kernel_rfl)) <;> (try (conv=>whnf)))
   all_goals first
    | (exfalso;omega)
    | (exfalso;exact hA2 (by assumption) (by assumption))
    | (exfalso;exact hA2 (by assumption) (Bool.eq_false_iff.2 (by assumption)))
    | exact K7 (rs:=[.cell 2 Az, .tmp 3, .tmp 4, .tmp 5]) (vs:=[_,_,_,_]) rfl ⟨P1 rfl rfl rfl k6,⟨_,rfl, .nil 1⟩,⟨_,rfl, .refl _⟩,⟨_,rfl, .refl _⟩,trivial⟩ rfl
    | contradiction
  ·dsimp only [pS,pB,Ey]
   rw [if_neg hA] at i8
   have hD0:D ≠ []:=fun h=>hA (.inl h)
   obtain rfl:b1 = true:=hb1.symm.trans (decide_eq_true hD0)
   obtain rfl:b3 = false:=hb3.symm.trans (decide_eq_false fun h=>hA (.inr h))
   rw [if_neg hD0] at hll
   have hp3:=hp2 hD0
   clear hA hb1 hb3 hp2
   have hq:=XG r w hwp hst (by omega) (fun l hl=>by have:=s4 l hl;omega) hwl hL
   have hsz:=Dr r w
   have hs0:(H4 r w).2 = true → (H4 r w).1.st = 0:=fun _=>ST hst hL
   generalize H4 r w = R at *
   obtain ⟨r2,ok⟩:=R
   dsimp only at hq hsz i8 hs0
   obtain ⟨ls,cs,rs,st⟩:=r
   obtain ⟨ls2,cs2,rs2,st2⟩:=r2
   dsimp only at *
   cases ok with
   | false =>
     rw [if_pos rfl] at i8
     simp only [Prod.mk.injEq] at i8
     obtain ⟨rfl,rfl,rfl⟩:=i8
     obtain rfl:=hE1 (by decide)
     clear hE1 hE2 hE3
     repeat' ((first | refine A9 c1 ?_ | refine A9 c2 ?_ | refine A9 c3 ?_ | (refine A7 (x:=B9 w 0) g0 (by omega) ?_) |refine A1 ?_|refine S1 ?_|refine Z1 ?_|refine Z2 ?_|(refine And.intro ?_ ?_<;>intro h<;>try first|(exfalso;omega)|exact absurd rfl h)|refine Z3 ?_|refine Z4 ?_|intro el hel hbB|intro el hel|intro ex|refine Z5 ?_|(refine A6 ?_ ?_;exact ⟨by kernel_rfl,by decide⟩)|refine A5 ?_ ?_|exact A4|refine A3 ?_ ?_|exact A2|(refine A0 ?_ ?_ ?_;kernel_rfl;kernel_rfl) | refine nc [1,2,3,4] [0,0,0,0] hq rfl rfl rfl ⟨rfl,rfl,rfl,rfl,trivial⟩ ?_) <;> (try (conv=>whnf)))
     all_goals first
      | (exfalso;omega)
      | exact K7 (rs:=[.cell 2 Az, .tmp 3, .tmp 4, .tmp 5]) (vs:=[_,_,_,_]) rfl ⟨P1 rfl rfl rfl k6,⟨_,rfl, .nil 1⟩,⟨_,rfl, .refl _⟩,⟨_,rfl, .refl _⟩,trivial⟩ rfl
      | contradiction
   | true =>
     rw [if_neg (by decide)] at i8
     have hs0:=hs0 rfl
     have hA1:u.length < f:=by omega
     have hA2:n + 1 + u.length ≤ 20001:=by omega
     have hA3:k5 ⟨ls2,cs2,rs2,st2⟩ ≤ n + 1:=by omega
     have hA4:(p.length:Int) + ((l.length:Int) + 1) = (((p ++ l ++ [10]).length:Nat):Int):=by simp only [List.length_append,List.length_singleton];omega
     have hA5:(n:Int) + 1 = ((n + 1:Nat):Int):=by omega
     have hA6:u.length < t.length:=by omega
     have hb:(l.length:Int) ≤ 20000 ∧ (p.length:Int) ≤ 20000 ∧ (n:Int) ≤ 20001:=by omega
     obtain ⟨hb1,hb2,hb3⟩:=hb
     repeat' ((first | refine A9 c1 ?_ | refine A9 c2 ?_ | refine A9 c3 ?_ | (refine A7 (x:=B9 w 0) g0 (by omega) ?_) |refine A1 ?_|refine S1 ?_|refine Z1 ?_|refine Z2 ?_|(refine And.intro ?_ ?_<;>intro h<;>try first|(exfalso;omega)|exact absurd rfl h)|refine Z3 ?_|refine Z4 ?_|intro el hel hbB|intro el hel|intro ex|refine Z5 ?_|(refine A6 ?_ ?_;exact ⟨by kernel_rfl,by decide⟩)|refine A5 ?_ ?_|exact A4|refine A3 ?_ ?_|exact A2|(refine A0 ?_ ?_ ?_;kernel_rfl;kernel_rfl) | refine nc [1,2,3,4] [0,0,0,0] hq rfl rfl rfl ⟨rfl,rfl,rfl,rfl,trivial⟩ ?_) <;> (try (conv=>whnf)))
     all_goals first
      | (exfalso;omega)
      | exact ⟨(true,⟨ls2,cs2,rs2,st2⟩,n + 1,p ++ l ++ [10],u,f),⟨hp3.symm,hA1,Nat.succ_pos n,hA2,hA3,(fun _=>hs0),(fun h=>by cases h),i8⟩,hA6,A8 h0 rfl ⟨rfl,rfl,rfl,congrArg (fun z=>some (AV.i z)) hA4,congrArg (fun z=>some (AV.i z)) hA5,trivial⟩ ⟨rfl,rfl,⟨_,rfl⟩,⟨_,rfl⟩,⟨_,rfl⟩,trivial⟩ rfl rfl rfl⟩
      | exact absurd (by assumption) hnsI
      | contradiction
 have hS:St.le E 112 (pS t0 g r n p.length) (pS t0 false r n p.length):=by
  cases g with
  | true=>exact Ux h0
  | false=>exact B4
 refine u5 hS ?_
 have hl:Mj w → ¬ r.st = 0:=fun h=>by
  cases g with
  | true=>exact absurd ⟨rfl,h⟩ hgL
  | false=>exact i7 rfl
 clear hS hgL i6 i7
 by_cases hA:D = [] ∨ [] ∈ w
 ·clear c4
  dsimp only [pS,pB,Ey]
  rw [if_pos hA] at i8
  simp only [Prod.mk.injEq] at i8
  obtain ⟨rfl,rfl,rfl⟩:=i8
  obtain rfl:=hE1 (by decide)
  clear hE1 hE2 hE3
  have hA2:b1 = true → b3 = false → False:=fun h1 h3=>by
   rw [← hb1] at h1
   rw [← hb3] at h3
   rcases hA with h | h
   ·exact of_decide_eq_true h1 h
   ·exact of_decide_eq_false h3 h
  clear hA
  repeat' ((first | refine A9 c1 ?_ | refine A9 c2 ?_ | refine A9 c3 ?_ | (refine A7 (x:=B9 w 0) g0 (by omega) ?_) |refine A1 ?_|refine S1 ?_|refine Z1 ?_|refine Z2 ?_|(refine And.intro ?_ ?_<;>intro h<;>try first|(exfalso;omega)|exact absurd rfl h)|refine Z3 ?_|refine Z4 ?_|intro el hel hbB|intro el hel|intro ex|refine Z5 ?_|(refine A6 ?_ ?_;exact ⟨by kernel_rfl,by decide⟩)|refine A5 ?_ ?_|exact A4|refine A3 ?_ ?_|exact A2|(refine A0 ?_ ?_ ?_;kernel_rfl;kernel_rfl)) <;> (try (conv=>whnf)))
  all_goals first
   | (exfalso;omega)
   | (exfalso;exact hA2 (by assumption) (by assumption))
   | (exfalso;exact hA2 (by assumption) (Bool.eq_false_iff.2 (by assumption)))
   | exact K7 (rs:=[.cell 2 Az, .tmp 3, .tmp 4, .tmp 5]) (vs:=[_,_,_,_]) rfl ⟨P1 rfl rfl rfl k6,⟨_,rfl, .nil 1⟩,⟨_,rfl, .refl _⟩,⟨_,rfl, .refl _⟩,trivial⟩ rfl
   | contradiction
 rw [if_neg hA] at i8
 have hD0:D ≠ []:=fun h=>hA (.inl h)
 obtain rfl:b1 = true:=hb1.symm.trans (decide_eq_true hD0)
 obtain rfl:b3 = false:=hb3.symm.trans (decide_eq_false fun h=>hA (.inr h))
 rw [if_neg hD0] at hll
 have hp3:=hp2 hD0
 clear hA hb1 hb3 hp2
 by_cases hns:B9 w 0 = Y6
 ·rw [if_pos hns] at i8
  rw [hns] at g0
  clear hl hp3
  by_cases hw2:w.length = 2
  ·have g1:=H1 (ws:=w) (i:=1) (by omega)
   have c5:=y8 (B9 w 1) (by have:=hwl _ (List.mem_of_getElem? g1);omega)
   generalize B9 w 1 = z at *
   generalize H8 z = q at *
   obtain ⟨m,ok⟩:=q
   dsimp only at c5 i8
   cases ok with
   | false =>
     rw [if_pos (show ¬ (w.length = 2 ∧ false = true) from fun h=>by cases h.2)] at i8
     simp only [Prod.mk.injEq] at i8
     obtain ⟨rfl,rfl,rfl⟩:=i8
     obtain rfl:=hE1 (by decide)
     clear hE1 hE2 hE3
     dsimp only [pS,pB,Ey]
     clear c4
     repeat' ((first | refine A9 c1 ?_ | refine A9 c2 ?_ | refine A9 c3 ?_ | (refine A7 (x:=Y6) g0 (by omega) ?_) | refine A9 c5 ?_ | (refine A7 (x:=z) g1 (by omega) ?_) |refine A1 ?_|refine S1 ?_|refine Z1 ?_|refine Z2 ?_|(refine And.intro ?_ ?_<;>intro h<;>try first|(exfalso;omega)|exact absurd rfl h)|refine Z3 ?_|refine Z4 ?_|intro el hel hbB|intro el hel|intro ex|refine Z5 ?_|(refine A6 ?_ ?_;exact ⟨by kernel_rfl,by decide⟩)|refine A5 ?_ ?_|exact A4|refine A3 ?_ ?_|exact A2|(refine A0 ?_ ?_ ?_;kernel_rfl;kernel_rfl)) <;> (try (conv=>whnf)))
     all_goals first
      | (exfalso;omega)
      | exact K7 (rs:=[.cell 2 Az, .tmp 3, .tmp 4, .tmp 5]) (vs:=[_,_,_,_]) rfl ⟨P1 rfl rfl rfl k6,⟨_,rfl, .nil 1⟩,⟨_,rfl, .refl _⟩,⟨_,rfl, .refl _⟩,trivial⟩ rfl
      | contradiction
   | true =>
     rw [if_neg (show ¬ ¬ (w.length = 2 ∧ true = true) from fun h=>h ⟨hw2,rfl⟩)] at i8
     by_cases hm:m = M8 p
     ·rw [if_neg (show ¬ ¬ m = M8 p from fun h=>h hm)] at i8
      by_cases hu:u = []
      ·rw [if_neg (show ¬ ¬ u = [] from fun h=>h hu)] at i8
       simp only [Prod.mk.injEq] at i8
       obtain ⟨rfl,rfl,rfl⟩:=i8
       have hpr:=T8 ⟨r.lists,r.cols⟩ r.rows
       generalize L3 ⟨r.lists,r.cols⟩ r.rows = T at *
       obtain ⟨tx,e⟩:=T
       dsimp only at hpr hE2 hE3
       generalize M8 p = sp at *
       subst hm hu
       by_cases he:e = 0
       ·obtain rfl:=hE3 rfl he
        subst he
        clear hE1 hE2 hE3
        dsimp only [pS,pB,Ey]
        repeat' ((first | refine A9 c1 ?_ | refine A9 c2 ?_ | refine A9 c3 ?_ | (refine A7 (x:=Y6) g0 (by omega) ?_) | refine A9 c5 ?_ | (refine A7 (x:=z) g1 (by omega) ?_) | refine A9 c4 ?_ | refine A9 hpr ?_ | (refine G1 23 ?_;refine K1 (id:=23) (σ':=⟨[(2, .ref 0 0),(6, .iptr [.sl 2 (r.lists.map F2), .sl 7 (r.cols.map C2), .sl 1 (r.rows.map D8), .i r.st])],1,[(0,some (.box [.v (.slice none 0 0), .v (.slice none 0 0)]))]⟩) (C7 (A8 (σ':=⟨[(2, .ref 0 0),(6, .ref 1 0)],5,[(0,some (.box [.v (.slice none 0 0), .v (.slice none 0 0)])),(1,some (.box [.sl 2 (r.lists.map F2), .sl 7 (r.cols.map C2), .sl 1 (r.rows.map D8), .i r.st]))]⟩) h0 rfl ⟨rfl,rfl,trivial⟩ ⟨rfl,rfl,trivial⟩ rfl rfl rfl) (A8 h0 rfl ⟨rfl,rfl,trivial⟩ ⟨rfl,trivial⟩ rfl rfl rfl)) ?_;refine I3 (id:=23) ⟨[(2, .ref 0 0),(6, .iptr [.sl 2 (r.lists.map F2), .sl 7 (r.cols.map C2), .sl 1 (r.rows.map D8), .i r.st]),(16, .i 0)],1,[(0,some (.box [.v (.slice none 0 0), .v (.slice none 0 0)]))]⟩ ?_ ?_) | (refine I3 (id:=26) ⟨[(2, .ref 0 0),(3, .sl 1 (r.rows.map D8)),(4, .i 0),(5, .i 0)],1,[(0,some (.box [.sl 2 (r.lists.map F2), .sl 7 (r.cols.map C2)]))]⟩ ?_ ?_) |refine A1 ?_|refine S1 ?_|refine Z1 ?_|refine Z2 ?_|(refine And.intro ?_ ?_<;>intro h<;>try first|(exfalso;omega)|exact absurd rfl h)|refine Z3 ?_|refine Z4 ?_|intro el hel hbB|intro el hel|intro ex|refine Z5 ?_|(refine A6 ?_ ?_;exact ⟨by kernel_rfl,by decide⟩)|refine A5 ?_ ?_|exact A4|refine A3 ?_ ?_|exact A2|(refine A0 ?_ ?_ ?_;kernel_rfl;kernel_rfl)) <;> (try (conv=>whnf)))
        all_goals first
         | (exfalso;omega)
         | exact A8 h0 rfl ⟨rfl,rfl,rfl,trivial⟩ ⟨rfl,trivial⟩ rfl rfl rfl
         | exact A8 h0 rfl ⟨rfl,rfl,rfl,rfl,trivial⟩ ⟨rfl,trivial⟩ rfl rfl rfl
         | exact K7 (rs:=[.cell 2 Az, .tmp 3, .tmp 4, .tmp 5]) (vs:=[_,_,_,_]) rfl ⟨P1 rfl rfl rfl (.refl _),⟨_,rfl, .refl _⟩,⟨_,rfl, .refl _⟩,⟨_,rfl, .refl _⟩,trivial⟩ rfl
         | contradiction
       ·obtain rfl:=hE2 rfl he
        clear hE1 hE2 hE3
        dsimp only [pS,pB,Ey]
        repeat' ((first | refine A9 c1 ?_ | refine A9 c2 ?_ | refine A9 c3 ?_ | (refine A7 (x:=Y6) g0 (by omega) ?_) | refine A9 c5 ?_ | (refine A7 (x:=z) g1 (by omega) ?_) | refine A9 c4 ?_ | refine A9 hpr ?_ | (refine G1 23 ?_;refine K1 (id:=23) (σ':=⟨[(2, .ref 0 0),(6, .iptr [.sl 2 (r.lists.map F2), .sl 7 (r.cols.map C2), .sl 1 (r.rows.map D8), .i r.st])],1,[(0,some (.box [.v (.slice none 0 0), .v (.slice none 0 0)]))]⟩) (C7 (A8 (σ':=⟨[(2, .ref 0 0),(6, .ref 1 0)],5,[(0,some (.box [.v (.slice none 0 0), .v (.slice none 0 0)])),(1,some (.box [.sl 2 (r.lists.map F2), .sl 7 (r.cols.map C2), .sl 1 (r.rows.map D8), .i r.st]))]⟩) h0 rfl ⟨rfl,rfl,trivial⟩ ⟨rfl,rfl,trivial⟩ rfl rfl rfl) (A8 h0 rfl ⟨rfl,rfl,trivial⟩ ⟨rfl,trivial⟩ rfl rfl rfl)) ?_;refine I3 (id:=23) ⟨[(2, .ref 0 0),(6, .iptr [.sl 2 (r.lists.map F2), .sl 7 (r.cols.map C2), .sl 1 (r.rows.map D8), .i r.st]),(16, .i e)],1,[(0,some (.box [.v (.slice none 0 0), .v (.slice none 0 0)]))]⟩ ?_ ?_) |refine A1 ?_|refine S1 ?_|refine Z1 ?_|refine Z2 ?_|(refine And.intro ?_ ?_<;>intro h<;>try first|(exfalso;omega)|exact absurd rfl h)|refine Z3 ?_|refine Z4 ?_|intro el hel hbB|intro el hel|intro ex|refine Z5 ?_|(refine A6 ?_ ?_;exact ⟨by kernel_rfl,by decide⟩)|refine A5 ?_ ?_|exact A4|refine A3 ?_ ?_|exact A2|(refine A0 ?_ ?_ ?_;kernel_rfl;kernel_rfl)) <;> (try (conv=>whnf)))
        all_goals first
         | (exfalso;omega)
         | exact A8 h0 rfl ⟨rfl,rfl,rfl,trivial⟩ ⟨rfl,trivial⟩ rfl rfl rfl
         | exact A8 h0 rfl ⟨rfl,rfl,rfl,rfl,trivial⟩ ⟨rfl,trivial⟩ rfl rfl rfl
         | exact K7 (rs:=[.cell 2 Az, .tmp 3, .tmp 4, .tmp 5]) (vs:=[_,_,_,_]) rfl ⟨P1 rfl rfl rfl k6,⟨_,rfl, .nil 1⟩,⟨_,rfl, .refl _⟩,⟨_,rfl, .refl _⟩,trivial⟩ rfl
         | contradiction
      ·rw [if_pos hu] at i8
       simp only [Prod.mk.injEq] at i8
       obtain ⟨rfl,rfl,rfl⟩:=i8
       obtain rfl:=hE1 (by decide)
       clear hE1 hE2 hE3
       dsimp only [pS,pB,Ey]
       generalize M8 p = sp at *
       subst hm
       repeat' ((first | refine A9 c1 ?_ | refine A9 c2 ?_ | refine A9 c3 ?_ | (refine A7 (x:=Y6) g0 (by omega) ?_) | refine A9 c5 ?_ | (refine A7 (x:=z) g1 (by omega) ?_) | refine A9 c4 ?_ |refine A1 ?_|refine S1 ?_|refine Z1 ?_|refine Z2 ?_|(refine And.intro ?_ ?_<;>intro h<;>try first|(exfalso;omega)|exact absurd rfl h)|refine Z3 ?_|refine Z4 ?_|intro el hel hbB|intro el hel|intro ex|refine Z5 ?_|(refine A6 ?_ ?_;exact ⟨by kernel_rfl,by decide⟩)|refine A5 ?_ ?_|exact A4|refine A3 ?_ ?_|exact A2|(refine A0 ?_ ?_ ?_;kernel_rfl;kernel_rfl)) <;> (try (conv=>whnf)))
       all_goals first
        | (exfalso;omega)
        | exact K7 (rs:=[.cell 2 Az, .tmp 3, .tmp 4, .tmp 5]) (vs:=[_,_,_,_]) rfl ⟨P1 rfl rfl rfl k6,⟨_,rfl, .nil 1⟩,⟨_,rfl, .refl _⟩,⟨_,rfl, .refl _⟩,trivial⟩ rfl
        | contradiction
     ·rw [if_pos hm] at i8
      simp only [Prod.mk.injEq] at i8
      obtain ⟨rfl,rfl,rfl⟩:=i8
      obtain rfl:=hE1 (by decide)
      clear hE1 hE2 hE3
      dsimp only [pS,pB,Ey]
      generalize M8 p = sp at *
      repeat' ((first | refine A9 c1 ?_ | refine A9 c2 ?_ | refine A9 c3 ?_ | (refine A7 (x:=Y6) g0 (by omega) ?_) | refine A9 c5 ?_ | (refine A7 (x:=z) g1 (by omega) ?_) | refine A9 c4 ?_ |refine A1 ?_|refine S1 ?_|refine Z1 ?_|refine Z2 ?_|(refine And.intro ?_ ?_<;>intro h<;>try first|(exfalso;omega)|exact absurd rfl h)|refine Z3 ?_|refine Z4 ?_|intro el hel hbB|intro el hel|intro ex|refine Z5 ?_|(refine A6 ?_ ?_;exact ⟨by kernel_rfl,by decide⟩)|refine A5 ?_ ?_|exact A4|refine A3 ?_ ?_|exact A2|(refine A0 ?_ ?_ ?_;kernel_rfl;kernel_rfl)) <;> (try (conv=>whnf)))
      all_goals first
       | (exfalso;omega)
       | exact K7 (rs:=[.cell 2 Az, .tmp 3, .tmp 4, .tmp 5]) (vs:=[_,_,_,_]) rfl ⟨P1 rfl rfl rfl k6,⟨_,rfl, .nil 1⟩,⟨_,rfl, .refl _⟩,⟨_,rfl, .refl _⟩,trivial⟩ rfl
       | contradiction
  ·rw [if_pos (show ¬ (w.length = 2 ∧ (H8 (B9 w 1)).2 = true) from fun h=>hw2 h.1)] at i8
   simp only [Prod.mk.injEq] at i8
   obtain ⟨rfl,rfl,rfl⟩:=i8
   obtain rfl:=hE1 (by decide)
   clear hE1 hE2 hE3
   dsimp only [pS,pB,Ey]
   clear c4
   repeat' ((first | refine A9 c1 ?_ | refine A9 c2 ?_ | refine A9 c3 ?_ | (refine A7 (x:=Y6) g0 (by omega) ?_) |refine A1 ?_|refine S1 ?_|refine Z1 ?_|refine Z2 ?_|(refine And.intro ?_ ?_<;>intro h<;>try first|(exfalso;omega)|exact absurd rfl h)|refine Z3 ?_|refine Z4 ?_|intro el hel hbB|intro el hel|intro ex|refine Z5 ?_|(refine A6 ?_ ?_;exact ⟨by kernel_rfl,by decide⟩)|refine A5 ?_ ?_|exact A4|refine A3 ?_ ?_|exact A2|(refine A0 ?_ ?_ ?_;kernel_rfl;kernel_rfl)) <;> (try (conv=>whnf)))
   all_goals first
    | (exfalso;omega)
    | exact K7 (rs:=[.cell 2 Az, .tmp 3, .tmp 4, .tmp 5]) (vs:=[_,_,_,_]) rfl ⟨P1 rfl rfl rfl k6,⟨_,rfl, .nil 1⟩,⟨_,rfl, .refl _⟩,⟨_,rfl, .refl _⟩,trivial⟩ rfl
    | contradiction
 have hnsI:=hns
 rw [if_neg hns] at i8
 clear c4
 by_cases hrow:B9 w 0 = L2
 ·have hS:St.le E 112 (pS t0 false r n p.length) ⟨[(0, .str t0),(2, .ref 0 0),(6, .ref 1 0),(7, .i p.length),(8, .i n)],5,[(0,some (.box [.v (.slice none 0 0), .v (.slice none 0 0)])),(1,some (.box [.row 2 0 r.lists.length, .row 3 0 r.cols.length, .row 4 0 r.rows.length, .i r.st])),(2,some (.row N5 2 0 (r.lists.map F2))),(3,some (.row (E5 + O6) 7 0 (r.cols.map C2))),(4,some (.row S7 1 0 (r.rows.map D8)))]⟩:=C7 (Vv (i:=3) rfl (by omega) (by decide)) (A8 h0 rfl ⟨rfl,rfl,rfl,rfl,rfl,trivial⟩ ⟨rfl,rfl,⟨_,rfl⟩,⟨_,rfl⟩,⟨_,rfl⟩,trivial⟩ rfl rfl rfl)
  refine u5 hS ?_
  clear hS
  have hq:=XI r w hwp (by omega) (by omega) hwl hrow
  have hsz:=Dr r w
  have hs0:=fun h=>KF (r:=r) (w:=w) hl h
  generalize H4 r w = R at *
  obtain ⟨r2,ok⟩:=R
  dsimp only at hq hsz i8 hs0
  obtain ⟨ls,cs,rs,st⟩:=r
  obtain ⟨ls2,cs2,rs2,st2⟩:=r2
  dsimp only at *
  cases ok with
  | false =>
    rw [if_pos rfl] at i8
    simp only [Prod.mk.injEq] at i8
    obtain ⟨rfl,rfl,rfl⟩:=i8
    obtain rfl:=hE1 (by decide)
    clear hE1 hE2 hE3
    repeat' ((first | refine A9 c1 ?_ | refine A9 c2 ?_ | refine A9 c3 ?_ | (refine A7 (x:=B9 w 0) g0 (by omega) ?_) |refine A1 ?_|refine S1 ?_|refine Z1 ?_|refine Z2 ?_|(refine And.intro ?_ ?_<;>intro h<;>try first|(exfalso;omega)|exact absurd rfl h)|refine Z3 ?_|refine Z4 ?_|intro el hel hbB|intro el hel|intro ex|refine Z5 ?_|(refine A6 ?_ ?_;exact ⟨by kernel_rfl,by decide⟩)|refine A5 ?_ ?_|exact A4|refine A3 ?_ ?_|exact A2|(refine A0 ?_ ?_ ?_;kernel_rfl;kernel_rfl) | refine nc [1,2,3,4] [0,0,0,0] hq rfl rfl rfl ⟨rfl,rfl,rfl,rfl,trivial⟩ ?_) <;> (try (conv=>whnf)))
    all_goals first
     | (exfalso;omega)
     | exact K7 (rs:=[.cell 2 Az, .tmp 3, .tmp 4, .tmp 5]) (vs:=[_,_,_,_]) rfl ⟨P1 rfl rfl rfl k6,⟨_,rfl, .nil 1⟩,⟨_,rfl, .refl _⟩,⟨_,rfl, .refl _⟩,trivial⟩ rfl
     | contradiction
  | true =>
    rw [if_neg (by decide)] at i8
    have hs0:=hs0 rfl
    have hA1:u.length < f:=by omega
    have hA2:n + 1 + u.length ≤ 20001:=by omega
    have hA3:k5 ⟨ls2,cs2,rs2,st2⟩ ≤ n + 1:=by omega
    have hA4:(p.length:Int) + ((l.length:Int) + 1) = (((p ++ l ++ [10]).length:Nat):Int):=by simp only [List.length_append,List.length_singleton];omega
    have hA5:(n:Int) + 1 = ((n + 1:Nat):Int):=by omega
    have hA6:u.length < t.length:=by omega
    have hb:(l.length:Int) ≤ 20000 ∧ (p.length:Int) ≤ 20000 ∧ (n:Int) ≤ 20001:=by omega
    obtain ⟨hb1,hb2,hb3⟩:=hb
    repeat' ((first | refine A9 c1 ?_ | refine A9 c2 ?_ | refine A9 c3 ?_ | (refine A7 (x:=B9 w 0) g0 (by omega) ?_) |refine A1 ?_|refine S1 ?_|refine Z1 ?_|refine Z2 ?_|(refine And.intro ?_ ?_<;>intro h<;>try first|(exfalso;omega)|exact absurd rfl h)|refine Z3 ?_|refine Z4 ?_|intro el hel hbB|intro el hel|intro ex|refine Z5 ?_|(refine A6 ?_ ?_;exact ⟨by kernel_rfl,by decide⟩)|refine A5 ?_ ?_|exact A4|refine A3 ?_ ?_|exact A2|(refine A0 ?_ ?_ ?_;kernel_rfl;kernel_rfl) | refine nc [1,2,3,4] [0,0,0,0] hq rfl rfl rfl ⟨rfl,rfl,rfl,rfl,trivial⟩ ?_) <;> (try (conv=>whnf)))
    all_goals first
     | (exfalso;omega)
     | exact ⟨(false,⟨ls2,cs2,rs2,st2⟩,n + 1,p ++ l ++ [10],u,f),⟨hp3.symm,hA1,Nat.succ_pos n,hA2,hA3,(fun h=>by cases h),(fun _=>hs0),i8⟩,hA6,C7 (QJ (i:=3) rfl (by decide)) (A8 h0 rfl ⟨rfl,rfl,rfl,congrArg (fun z=>some (AV.i z)) hA4,congrArg (fun z=>some (AV.i z)) hA5,trivial⟩ ⟨rfl,rfl,⟨_,rfl⟩,⟨_,rfl⟩,⟨_,rfl⟩,trivial⟩ rfl rfl rfl)⟩
     | exact absurd (by assumption) hnsI
     | contradiction
 ·dsimp only [pS,pB,Ey]
  have hq:=XH r w hwp (by omega) (by omega) hwn hwl hl hrow
  have hsz:=Dr r w
  have hs0:=fun h=>KF (r:=r) (w:=w) hl h
  generalize H4 r w = R at *
  obtain ⟨r2,ok⟩:=R
  dsimp only at hq hsz i8 hs0
  obtain ⟨ls,cs,rs,st⟩:=r
  obtain ⟨ls2,cs2,rs2,st2⟩:=r2
  dsimp only at *
  cases ok with
  | false =>
    rw [if_pos rfl] at i8
    simp only [Prod.mk.injEq] at i8
    obtain ⟨rfl,rfl,rfl⟩:=i8
    obtain rfl:=hE1 (by decide)
    clear hE1 hE2 hE3
    repeat' ((first | refine A9 c1 ?_ | refine A9 c2 ?_ | refine A9 c3 ?_ | (refine A7 (x:=B9 w 0) g0 (by omega) ?_) |refine A1 ?_|refine S1 ?_|refine Z1 ?_|refine Z2 ?_|(refine And.intro ?_ ?_<;>intro h<;>try first|(exfalso;omega)|exact absurd rfl h)|refine Z3 ?_|refine Z4 ?_|intro el hel hbB|intro el hel|intro ex|refine Z5 ?_|(refine A6 ?_ ?_;exact ⟨by kernel_rfl,by decide⟩)|refine A5 ?_ ?_|exact A4|refine A3 ?_ ?_|exact A2|(refine A0 ?_ ?_ ?_;kernel_rfl;kernel_rfl) | refine nc [1,2,3,4] [0,0,0,0] hq rfl rfl rfl ⟨rfl,rfl,rfl,rfl,trivial⟩ ?_) <;> (try (conv=>whnf)))
    all_goals first
     | (exfalso;omega)
     | exact K7 (rs:=[.cell 2 Az, .tmp 3, .tmp 4, .tmp 5]) (vs:=[_,_,_,_]) rfl ⟨P1 rfl rfl rfl k6,⟨_,rfl, .nil 1⟩,⟨_,rfl, .refl _⟩,⟨_,rfl, .refl _⟩,trivial⟩ rfl
     | contradiction
  | true =>
    rw [if_neg (by decide)] at i8
    have hs0:=hs0 rfl
    have hA1:u.length < f:=by omega
    have hA2:n + 1 + u.length ≤ 20001:=by omega
    have hA3:k5 ⟨ls2,cs2,rs2,st2⟩ ≤ n + 1:=by omega
    have hA4:(p.length:Int) + ((l.length:Int) + 1) = (((p ++ l ++ [10]).length:Nat):Int):=by simp only [List.length_append,List.length_singleton];omega
    have hA5:(n:Int) + 1 = ((n + 1:Nat):Int):=by omega
    have hA6:u.length < t.length:=by omega
    have hb:(l.length:Int) ≤ 20000 ∧ (p.length:Int) ≤ 20000 ∧ (n:Int) ≤ 20001:=by omega
    obtain ⟨hb1,hb2,hb3⟩:=hb
    repeat' ((first | refine A9 c1 ?_ | refine A9 c2 ?_ | refine A9 c3 ?_ | (refine A7 (x:=B9 w 0) g0 (by omega) ?_) |refine A1 ?_|refine S1 ?_|refine Z1 ?_|refine Z2 ?_|(refine And.intro ?_ ?_<;>intro h<;>try first|(exfalso;omega)|exact absurd rfl h)|refine Z3 ?_|refine Z4 ?_|intro el hel hbB|intro el hel|intro ex|refine Z5 ?_|(refine A6 ?_ ?_;exact ⟨by kernel_rfl,by decide⟩)|refine A5 ?_ ?_|exact A4|refine A3 ?_ ?_|exact A2|(refine A0 ?_ ?_ ?_;kernel_rfl;kernel_rfl) | refine nc [1,2,3,4] [0,0,0,0] hq rfl rfl rfl ⟨rfl,rfl,rfl,rfl,trivial⟩ ?_) <;> (try (conv=>whnf)))
    all_goals first
     | (exfalso;omega)
     | exact ⟨(false,⟨ls2,cs2,rs2,st2⟩,n + 1,p ++ l ++ [10],u,f),⟨hp3.symm,hA1,Nat.succ_pos n,hA2,hA3,(fun h=>by cases h),(fun _=>hs0),i8⟩,hA6,A8 h0 rfl ⟨rfl,rfl,rfl,congrArg (fun z=>some (AV.i z)) hA4,congrArg (fun z=>some (AV.i z)) hA5,trivial⟩ ⟨rfl,rfl,⟨_,rfl⟩,⟨_,rfl⟩,⟨_,rfl⟩,trivial⟩ rfl rfl rfl⟩
     | exact absurd (by assumption) hnsI
     | contradiction
end Go.Proofs.YtiphlhoclaogjabGreatDoor
