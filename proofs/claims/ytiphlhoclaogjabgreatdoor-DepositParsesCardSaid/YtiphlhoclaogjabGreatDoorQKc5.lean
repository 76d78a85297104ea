/- Chapter 3: the program's Parse. -/
import Derived.Test.YtiphlhoclaogjabGreatDoorQSp8
import Derived.Test.YtiphlhoclaogjabGreatDoorQXc
import Derived.Test.YtiphlhoclaogjabGreatDoorQF7
set_option linter.unusedVariables false
set_option linter.unnecessarySimpa false
set_option linter.unusedSimpArgs false
namespace Go.Proofs.YtiphlhoclaogjabGreatDoor
open Go Go.Av
attribute [local irreducible] D6 B8 D8 D7 DQ E0 E1 St.le B4 B9
set_option maxRecDepth 100000
abbrev Y7:Nat:=26
theorem Q8:NL (.agg [.v (.slice none 0 0), .v (.slice none 0 0)]) (sA ⟨[],[]⟩):=Lq ⟨.nil 2, .nil 7,trivial⟩
theorem Yd (w:List UInt8):Lib.cut w [10] = (w.takeWhile (D0 10),(w.dropWhile (D0 10)).drop 1,decide (w.dropWhile (D0 10) ≠ [])):=OE 10 w
def y9 (g:Bool) (ls:List CL):C6:=match g with
 | true=>.row (G0 + K3) 2 0 (OD ls)
 | false=>.row K3 2 0 (ls.map D3)
abbrev pB (g:Bool) (r:F5):Hp:=[(0,some (.box [.v (.slice none 0 0), .v (.slice none 0 0)])),(1,some (.box [.row 2 0 r.lists.length, .row 3 0 r.cols.length, .row 4 0 r.rows.length, .i r.st])),(2,some (y9 g r.lists)),(3,some (.row J2 7 0 (r.cols.map C0))),(4,some (.row I3 1 0 (r.rows.map D2)))]
abbrev pS (t0:List UInt8) (g:Bool) (r:F5) (n a:Nat):St:=⟨[(0, .str t0),(2, .ref 0 0),(6, .ref 1 0),(7, .i a),(8, .i n)],5,pB g r⟩
theorem US {E:Env} {n:Nat} {t0:List UInt8} {r:F5} {k a:Nat} (h0:E.n0 = 0):St.le E n (pS t0 true r k a) (pS t0 false r k a) :=
 C3 (CM (i:=2) (l':=r.lists.map D3) (.inl rfl) rfl (by decide) (Cy r.lists)) (B0 h0 rfl ⟨rfl,rfl,rfl,rfl,rfl,trivial⟩ ⟨rfl,rfl,⟨_,rfl⟩,⟨_,rfl⟩,⟨_,rfl⟩,trivial⟩ rfl rfl rfl)
theorem Rs (n0:Nat) (t0 w0:List UInt8) (h0:w0 ∈ Q1 [32] n0 t0):w0.length ≤ t0.length:=by
 have key:∀ (n:Nat) (t:List UInt8),∀ w ∈ Q1 [32] n t,w.length ≤ t.length:=fun n=>by
  induction n with
  | zero=>intro t w hw;rw [Q1,List.mem_singleton] at hw;subst hw;exact Nat.le_refl _
  | succ n ih =>
    intro t w hw
    rw [Q1] at hw
    cases hc:j9 [32] t with
    | none=>rw [hc] at hw;dsimp only at hw;rw [List.mem_singleton] at hw;subst hw;exact Nat.le_refl _
    | some z =>
      obtain ⟨x,y⟩:=z
      rw [hc] at hw
      dsimp only at hw
      have hinv:=Dq hc
      have hlen:t.length = x.length + 1 + y.length:=by rw [hinv];simp only [List.length_append,List.length_singleton]
      rcases List.mem_cons.1 hw with rfl | hw
      ·omega
      ·have:=ih y w hw;omega
 exact key _ _ _ h0
theorem Cz (t:List UInt8):(t.takeWhile (D0 10)).length ≤ t.length:=by
 have e:=congrArg List.length (IC 10 t)
 rw [List.length_append] at e
 omega
theorem MW (t:List UInt8):(t.takeWhile (D0 10)).length + (if t.dropWhile (D0 10) = [] then 0 else 1 + ((t.dropWhile (D0 10)).drop 1).length) = t.length:=by
 have e:=congrArg List.length (IC 10 t)
 rw [List.length_append] at e
 by_cases h:t.dropWhile (D0 10) = []
 ·rw [if_pos h];rw [h] at e;simpa using e
 ·rw [if_neg h]
  have h2:=congrArg List.length (JA h)
  rw [List.length_cons] at h2
  omega
set_option maxHeartbeats 8000000 in
theorem Pe (t0:List UInt8) (hl:20000 < t0.length):B4 Tryz.prog 14 [.str t0] (.tup [sA ⟨[],[]⟩, .sl 1 (([]:List (List Int)).map D2), .i (0:Nat), .i 1]):=by
 refine F3 Tryz.func14 112 fun hrd E h0=>?_
 clear hrd
 repeat' ((first|refine A4 ?_|refine S1 ?_|refine Z1 ?_|refine Z2 ?_|(refine And.intro ?_ ?_<;>intro h<;>try first|(exfalso;omega)|exact absurd rfl h)|refine Z3 ?_|refine Z4 ?_|intro el hel hbB|intro el hel|intro ex|refine Z5 ?_|(refine A9 ?_ ?_;exact ⟨by kernel_rfl,by decide⟩)|refine A8 ?_ ?_|exact A7|refine A6 ?_ ?_|exact A5|(refine A0 ?_ ?_ ?_;kernel_rfl;kernel_rfl)) <;> (try (conv=>whnf)))
 all_goals first
  | (exfalso;omega)
  | exact F9 (rs:=[.cell 2 Y7, .tmp 3, .tmp 4, .tmp 5]) (vs:=[_,_,_,_]) rfl ⟨H1 rfl rfl rfl Q8,⟨_,rfl, .nil 1⟩,⟨_,rfl, .refl _⟩,⟨_,rfl, .refl _⟩,trivial⟩ rfl
set_option maxHeartbeats 64000000 in
theorem Du (t0:List UInt8):B4 Tryz.prog 14 [.str t0] (.tup [sA (Cf t0).1.1, .sl 1 ((Cf t0).1.2.map D2), .i (Cf t0).2.1, .i (Cf t0).2.2]):=by
 unfold Cf
 by_cases hl:20000 < t0.length
 ·rw [if_pos hl];exact Pe t0 hl
 rw [if_neg hl]
 generalize hZ:W9 (t0.length + 1) z3 1 [] t0 = Z
 obtain ⟨Zr,Zn,Ze⟩:=Z
 dsimp only
 have hE1:¬ Ze = 0 → (if ¬ Ze = 0 then (((⟨[],[]⟩,[]),Zn,Ze):(C4 × List (List Int)) × Nat × Int) else if ¬ (K4 ⟨Zr.lists,Zr.cols⟩ Zr.rows).2 = 0 then ((⟨[],[]⟩,[]),0,(K4 ⟨Zr.lists,Zr.cols⟩ Zr.rows).2) else ((⟨Zr.lists,Zr.cols⟩,Zr.rows),0,0)) = ((⟨[],[]⟩,[]),Zn,Ze):=fun h=>if_pos h
 have hE2:Ze = 0 → ¬ (K4 ⟨Zr.lists,Zr.cols⟩ Zr.rows).2 = 0 → (if ¬ Ze = 0 then (((⟨[],[]⟩,[]),Zn,Ze):(C4 × List (List Int)) × Nat × Int) else if ¬ (K4 ⟨Zr.lists,Zr.cols⟩ Zr.rows).2 = 0 then ((⟨[],[]⟩,[]),0,(K4 ⟨Zr.lists,Zr.cols⟩ Zr.rows).2) else ((⟨Zr.lists,Zr.cols⟩,Zr.rows),0,0)) = ((⟨[],[]⟩,[]),0,(K4 ⟨Zr.lists,Zr.cols⟩ Zr.rows).2):=fun h g=>by rw [if_neg (fun k=>k h),if_pos g]
 have hE3:Ze = 0 → (K4 ⟨Zr.lists,Zr.cols⟩ Zr.rows).2 = 0 → (if ¬ Ze = 0 then (((⟨[],[]⟩,[]),Zn,Ze):(C4 × List (List Int)) × Nat × Int) else if ¬ (K4 ⟨Zr.lists,Zr.cols⟩ Zr.rows).2 = 0 then ((⟨[],[]⟩,[]),0,(K4 ⟨Zr.lists,Zr.cols⟩ Zr.rows).2) else ((⟨Zr.lists,Zr.cols⟩,Zr.rows),0,0)) = ((⟨Zr.lists,Zr.cols⟩,Zr.rows),0,0):=fun h g=>by rw [if_neg (fun k=>k h),if_neg (fun k=>k g)]
 generalize hX:(if ¬ Ze = 0 then (((⟨[],[]⟩,[]),Zn,Ze):(C4 × List (List Int)) × Nat × Int) else if ¬ (K4 ⟨Zr.lists,Zr.cols⟩ Zr.rows).2 = 0 then ((⟨[],[]⟩,[]),0,(K4 ⟨Zr.lists,Zr.cols⟩ Zr.rows).2) else ((⟨Zr.lists,Zr.cols⟩,Zr.rows),0,0)) = X at *
 clear hX
 refine F3 Tryz.func14 112 fun hrd E h0=>?_
 clear hrd
 repeat' ((first|refine A4 ?_|refine S1 ?_|refine Z1 ?_|refine Z2 ?_|(refine And.intro ?_ ?_<;>intro h<;>try first|(exfalso;omega)|exact absurd rfl h)|refine Z3 ?_|refine Z4 ?_|intro el hel hbB|intro el hel|intro ex|refine Z5 ?_|(refine A9 ?_ ?_;exact ⟨by kernel_rfl,by decide⟩)|refine A8 ?_ ?_|exact A7|refine A6 ?_ ?_|exact A5|(refine A0 ?_ ?_ ?_;kernel_rfl;kernel_rfl)) <;> (try (conv=>whnf)))
 all_goals first
  | (exfalso;omega)
  | skip
 refine C2 (ι:=Bool × F5 × Nat × List UInt8 × List UInt8 × Nat) (fun x=>pS t0 x.1 x.2.1 x.2.2.1 x.2.2.2.1.length) (fun x=>t0 = x.2.2.2.1 ++ x.2.2.2.2.1 ∧ x.2.2.2.2.1.length < x.2.2.2.2.2 ∧ 1 ≤ x.2.2.1 ∧ x.2.2.1 + x.2.2.2.2.1.length ≤ 20001 ∧ Y6 x.2.1 ≤ x.2.2.1 ∧ (x.1 = true → x.2.1.st = 0) ∧ (x.1 = false → ¬ x.2.1.st = 0) ∧ W9 x.2.2.2.2.2 x.2.1 x.2.2.1 x.2.2.2.1 x.2.2.2.2.1 = (Zr,Zn,Ze)) (fun x=>x.2.2.2.2.1.length) (true,z3,1,[],t0,t0.length + 1) ⟨rfl,by dsimp only;omega,by dsimp only;omega,by dsimp only;omega,Nat.zero_le _,fun _=>rfl,(fun h=>by cases h),hZ⟩
  (by
   refine C3 (Z7 1 0 (e:=K3) (sz:=2) rfl rfl) ?_
   refine C3 (Z7 1 1 (e:=J2) (sz:=7) rfl rfl) ?_
   refine C3 (Z7 1 2 (e:=I3) (sz:=1) rfl rfl) ?_
   refine C3 (Fb (i:=2) (F:=G0) (l':=[]) (.inl rfl) rfl (fun h=>absurd h (by decide)) (by decide) ⟨rfl,fun k b hb=>by simp at hb⟩) ?_
   exact B0 h0 rfl ⟨rfl,rfl,rfl,rfl,rfl,trivial⟩ ⟨rfl,rfl,⟨_,rfl⟩,⟨_,rfl⟩,⟨_,rfl⟩,trivial⟩ rfl rfl rfl) (fun x hI=>?_)
 obtain ⟨g,r,n,p,t,f⟩:=x
 obtain ⟨i1,i2,i3,i4,i5,i6,i7,i8⟩:=hI
 dsimp only at i1 i2 i3 i4 i5 i6 i7 i8 ⊢
 clear hZ
 obtain ⟨f,rfl⟩:∃ g,f = g + 1:=⟨f - 1,by omega⟩
 rw [W9] at i8
 have hlen:t0.length = p.length + t.length:=by rw [i1,List.length_append]
 have hraw:List.drop (p.length:Int).toNat (List.take (t0.length:Int).toNat t0) = t:=by
  rw [Int.toNat_natCast,Int.toNat_natCast,List.take_length,i1,List.drop_left]
 have hraw2:List.drop ((0:Nat):Int).toNat (List.take (p.length:Int).toNat t0) = p:=by
  rw [Int.toNat_natCast,Int.toNat_natCast,i1,List.take_left];rfl
 have hll:=MW t
 have c1:B4 Tryz.prog 37 [.str (List.drop (p.length:Int).toNat (List.take (t0.length:Int).toNat t0)), .str [10]] (.tup [.str (t.takeWhile (D0 10)), .str ((t.dropWhile (D0 10)).drop 1), .b (decide (t.dropWhile (D0 10) ≠ []))]):=by
  rw [hraw]
  have h:=TJ t [10] (by omega)
  rw [Yd] at h
  exact h
 have c4:B4 Tryz.prog 12 [.str (List.drop ((0:Nat):Int).toNat (List.take (p.length:Int).toNat t0))] (.i (R7 p)):=by
  rw [hraw2]
  exact Dk p (by omega)
 have hl1:(t.takeWhile (D0 10)).length ≤ 20000:=by
  have:=Cz t
  omega
 have c2:B4 Tryz.prog 38 [.str (t.takeWhile (D0 10)), .str [32]] (.sl 1 ((I0 [32] (t.takeWhile (D0 10))).map C1)):=IE (t.takeWhile (D0 10)) [32] (by omega) (by simp)
 have hwl:∀ z ∈ I0 [32] (t.takeWhile (D0 10)),z.length ≤ 20000:=fun z hz=>Nat.le_trans (Rs _ _ z hz) hl1
 have hwn:(I0 [32] (t.takeWhile (D0 10))).length ≤ 20001:=Nat.le_trans (Ds [32] _ _) (by omega)
 have hwp:0 < (I0 [32] (t.takeWhile (D0 10))).length:=List.length_pos_iff.2 (Cw [32] _ _)
 have hp2:t.dropWhile (D0 10) ≠ [] → (p ++ t.takeWhile (D0 10) ++ [10]) ++ (t.dropWhile (D0 10)).drop 1 = t0:=fun h=>by
  rw [i1]
  have:=Rq h
  conv=>rhs;rw [this]
  simp only [List.append_assoc]
 clear hraw hraw2
 generalize hD:t.dropWhile (D0 10) = D at *
 generalize D.drop 1 = u at *
 generalize t.takeWhile (D0 10) = l at *
 generalize I0 [32] l = w at *
 have c3:=KJ w []
 have g0:=C8 (ws:=w) (i:=0) hwp
 obtain ⟨s1,s2,s3,s4⟩:=Jy r
 have hbd:n ≤ 20001:=by omega
 generalize hb1:decide (D ≠ []) = b1 at *
 generalize hb3:decide ([] ∈ w) = b3 at *
 have hE0:(n:Int) ≤ 20001:=by omega
 -- a line of lists while lists are read
 by_cases hgL:g = true ∧ EG w
 ·obtain ⟨rfl,hL⟩:=hgL
  have hst:=i6 rfl
  have hns:¬ B6 w 0 = L7:=fun e=>by
   rcases hL with h | h <;> rw [e] at h <;> revert h <;> decide
  have hnsI:=hns
  rw [if_neg hns] at i8
  clear c4
  by_cases hA:D = [] ∨ [] ∈ w
  ·dsimp only [pS,pB,y9]
   rw [if_pos hA] at i8
   simp only [Prod.mk.injEq] at i8
   obtain ⟨rfl,rfl,rfl⟩:=i8
   obtain rfl:=hE1 (by decide)
   clear hE1 hE2 hE3
   have hA2:b1 = true → b3 = false → False:=fun h1 h3=>by
    rw [← hb1] at h1
    rw [← hb3] at h3
    rcases hA with h | h
    ·exact of_decide_eq_true h1 h
    ·exact of_decide_eq_false h3 h
   clear hA
   repeat' ((first | refine B2 c1 ?_ | refine B2 c2 ?_ | refine B2 c3 ?_ | (refine A3 (x:=B6 w 0) g0 (by omega) ?_) |refine A4 ?_|refine S1 ?_|refine Z1 ?_|refine Z2 ?_|(refine And.intro ?_ ?_<;>intro h<;>try first|(exfalso;omega)|exact absurd rfl h)|refine Z3 ?_|refine Z4 ?_|intro el hel hbB|intro el hel|intro ex|refine Z5 ?_|(refine A9 ?_ ?_;exact ⟨by kernel_rfl,by decide⟩)|refine A8 ?_ ?_|exact A7|refine A6 ?_ ?_|exact A5|(refine A0 ?_ ?_ ?_;kernel_rfl;kernel_rfl)) <;> (try (conv=>whnf)))
   all_goals first
    | (exfalso;omega)
    | (exfalso;exact hA2 (by assumption) (by assumption))
    | (exfalso;exact hA2 (by assumption) (Bool.eq_false_iff.2 (by assumption)))
    | exact F9 (rs:=[.cell 2 Y7, .tmp 3, .tmp 4, .tmp 5]) (vs:=[_,_,_,_]) rfl ⟨H1 rfl rfl rfl Q8,⟨_,rfl, .nil 1⟩,⟨_,rfl, .refl _⟩,⟨_,rfl, .refl _⟩,trivial⟩ rfl
    | contradiction
  ·dsimp only [pS,pB,y9]
   rw [if_neg hA] at i8
   have hD0:D ≠ []:=fun h=>hA (.inl h)
   obtain rfl:b1 = true:=hb1.symm.trans (decide_eq_true hD0)
   obtain rfl:b3 = false:=hb3.symm.trans (decide_eq_false fun h=>hA (.inr h))
   rw [if_neg hD0] at hll
   have hp3:=hp2 hD0
   clear hA hb1 hb3 hp2
   have hq:=Wf r w hwp hst (by omega) (fun l hl=>by have:=s4 l hl;omega) hwl hL
   have hsz:=Dt r w
   have hs0:(L5 r w).2 = true → (L5 r w).1.st = 0:=fun _=>Rr hst hL
   generalize L5 r w = R at *
   obtain ⟨r2,ok⟩:=R
   dsimp only at hq hsz i8 hs0
   obtain ⟨ls,cs,rs,st⟩:=r
   obtain ⟨ls2,cs2,rs2,st2⟩:=r2
   dsimp only at *
   cases ok with
   | false =>
     rw [if_pos rfl] at i8
     simp only [Prod.mk.injEq] at i8
     obtain ⟨rfl,rfl,rfl⟩:=i8
     obtain rfl:=hE1 (by decide)
     clear hE1 hE2 hE3
     repeat' ((first | refine B2 c1 ?_ | refine B2 c2 ?_ | refine B2 c3 ?_ | (refine A3 (x:=B6 w 0) g0 (by omega) ?_) |refine A4 ?_|refine S1 ?_|refine Z1 ?_|refine Z2 ?_|(refine And.intro ?_ ?_<;>intro h<;>try first|(exfalso;omega)|exact absurd rfl h)|refine Z3 ?_|refine Z4 ?_|intro el hel hbB|intro el hel|intro ex|refine Z5 ?_|(refine A9 ?_ ?_;exact ⟨by kernel_rfl,by decide⟩)|refine A8 ?_ ?_|exact A7|refine A6 ?_ ?_|exact A5|(refine A0 ?_ ?_ ?_;kernel_rfl;kernel_rfl) | refine nc [1,2,3,4] [0,0,0,0] hq rfl rfl rfl ⟨rfl,rfl,rfl,rfl,trivial⟩ ?_) <;> (try (conv=>whnf)))
     all_goals first
      | (exfalso;omega)
      | exact F9 (rs:=[.cell 2 Y7, .tmp 3, .tmp 4, .tmp 5]) (vs:=[_,_,_,_]) rfl ⟨H1 rfl rfl rfl Q8,⟨_,rfl, .nil 1⟩,⟨_,rfl, .refl _⟩,⟨_,rfl, .refl _⟩,trivial⟩ rfl
      | contradiction
   | true =>
     rw [if_neg (by decide)] at i8
     have hs0:=hs0 rfl
     have hA1:u.length < f:=by omega
     have hA2:n + 1 + u.length ≤ 20001:=by omega
     have hA3:Y6 ⟨ls2,cs2,rs2,st2⟩ ≤ n + 1:=by omega
     have hA4:(p.length:Int) + ((l.length:Int) + 1) = (((p ++ l ++ [10]).length:Nat):Int):=by simp only [List.length_append,List.length_singleton];omega
     have hA5:(n:Int) + 1 = ((n + 1:Nat):Int):=by omega
     have hA6:u.length < t.length:=by omega
     have hb:(l.length:Int) ≤ 20000 ∧ (p.length:Int) ≤ 20000 ∧ (n:Int) ≤ 20001:=by omega
     obtain ⟨hb1,hb2,hb3⟩:=hb
     repeat' ((first | refine B2 c1 ?_ | refine B2 c2 ?_ | refine B2 c3 ?_ | (refine A3 (x:=B6 w 0) g0 (by omega) ?_) |refine A4 ?_|refine S1 ?_|refine Z1 ?_|refine Z2 ?_|(refine And.intro ?_ ?_<;>intro h<;>try first|(exfalso;omega)|exact absurd rfl h)|refine Z3 ?_|refine Z4 ?_|intro el hel hbB|intro el hel|intro ex|refine Z5 ?_|(refine A9 ?_ ?_;exact ⟨by kernel_rfl,by decide⟩)|refine A8 ?_ ?_|exact A7|refine A6 ?_ ?_|exact A5|(refine A0 ?_ ?_ ?_;kernel_rfl;kernel_rfl) | refine nc [1,2,3,4] [0,0,0,0] hq rfl rfl rfl ⟨rfl,rfl,rfl,rfl,trivial⟩ ?_) <;> (try (conv=>whnf)))
     all_goals first
      | (exfalso;omega)
      | exact ⟨(true,⟨ls2,cs2,rs2,st2⟩,n + 1,p ++ l ++ [10],u,f),⟨hp3.symm,hA1,Nat.succ_pos n,hA2,hA3,(fun _=>hs0),(fun h=>by cases h),i8⟩,hA6,B0 h0 rfl ⟨rfl,rfl,rfl,congrArg (fun z=>some (AV.i z)) hA4,congrArg (fun z=>some (AV.i z)) hA5,trivial⟩ ⟨rfl,rfl,⟨_,rfl⟩,⟨_,rfl⟩,⟨_,rfl⟩,trivial⟩ rfl rfl rfl⟩
      | exact absurd (by assumption) hnsI
      | contradiction
 have hS:St.le E 112 (pS t0 g r n p.length) (pS t0 false r n p.length):=by
  cases g with
  | true=>exact US h0
  | false=>exact B7
 refine O6 hS ?_
 have hl:EG w → ¬ r.st = 0:=fun h=>by
  cases g with
  | true=>exact absurd ⟨rfl,h⟩ hgL
  | false=>exact i7 rfl
 clear hS hgL i6 i7
 by_cases hA:D = [] ∨ [] ∈ w
 ·clear c4
  dsimp only [pS,pB,y9]
  rw [if_pos hA] at i8
  simp only [Prod.mk.injEq] at i8
  obtain ⟨rfl,rfl,rfl⟩:=i8
  obtain rfl:=hE1 (by decide)
  clear hE1 hE2 hE3
  have hA2:b1 = true → b3 = false → False:=fun h1 h3=>by
   rw [← hb1] at h1
   rw [← hb3] at h3
   rcases hA with h | h
   ·exact of_decide_eq_true h1 h
   ·exact of_decide_eq_false h3 h
  clear hA
  repeat' ((first | refine B2 c1 ?_ | refine B2 c2 ?_ | refine B2 c3 ?_ | (refine A3 (x:=B6 w 0) g0 (by omega) ?_) |refine A4 ?_|refine S1 ?_|refine Z1 ?_|refine Z2 ?_|(refine And.intro ?_ ?_<;>intro h<;>try first|(exfalso;omega)|exact absurd rfl h)|refine Z3 ?_|refine Z4 ?_|intro el hel hbB|intro el hel|intro ex|refine Z5 ?_|(refine A9 ?_ ?_;exact ⟨by kernel_rfl,by decide⟩)|refine A8 ?_ ?_|exact A7|refine A6 ?_ ?_|exact A5|(refine A0 ?_ ?_ ?_;kernel_rfl;kernel_rfl)) <;> (try (conv=>whnf)))
  all_goals first
   | (exfalso;omega)
   | (exfalso;exact hA2 (by assumption) (by assumption))
   | (exfalso;exact hA2 (by assumption) (Bool.eq_false_iff.2 (by assumption)))
   | exact F9 (rs:=[.cell 2 Y7, .tmp 3, .tmp 4, .tmp 5]) (vs:=[_,_,_,_]) rfl ⟨H1 rfl rfl rfl Q8,⟨_,rfl, .nil 1⟩,⟨_,rfl, .refl _⟩,⟨_,rfl, .refl _⟩,trivial⟩ rfl
   | contradiction
 rw [if_neg hA] at i8
 have hD0:D ≠ []:=fun h=>hA (.inl h)
 obtain rfl:b1 = true:=hb1.symm.trans (decide_eq_true hD0)
 obtain rfl:b3 = false:=hb3.symm.trans (decide_eq_false fun h=>hA (.inr h))
 rw [if_neg hD0] at hll
 have hp3:=hp2 hD0
 clear hA hb1 hb3 hp2
 by_cases hns:B6 w 0 = L7
 ·rw [if_pos hns] at i8
  rw [hns] at g0
  clear hl hp3
  by_cases hw2:w.length = 2
  ·have g1:=C8 (ws:=w) (i:=1) (by omega)
   have c5:=x9 (B6 w 1) (by have:=hwl _ (List.mem_of_getElem? g1);omega)
   generalize B6 w 1 = z at *
   generalize H4 z = q at *
   obtain ⟨m,ok⟩:=q
   dsimp only at c5 i8
   cases ok with
   | false =>
     rw [if_pos (show ¬ (w.length = 2 ∧ false = true) from fun h=>by cases h.2)] at i8
     simp only [Prod.mk.injEq] at i8
     obtain ⟨rfl,rfl,rfl⟩:=i8
     obtain rfl:=hE1 (by decide)
     clear hE1 hE2 hE3
     dsimp only [pS,pB,y9]
     clear c4
     repeat' ((first | refine B2 c1 ?_ | refine B2 c2 ?_ | refine B2 c3 ?_ | (refine A3 (x:=L7) g0 (by omega) ?_) | refine B2 c5 ?_ | (refine A3 (x:=z) g1 (by omega) ?_) |refine A4 ?_|refine S1 ?_|refine Z1 ?_|refine Z2 ?_|(refine And.intro ?_ ?_<;>intro h<;>try first|(exfalso;omega)|exact absurd rfl h)|refine Z3 ?_|refine Z4 ?_|intro el hel hbB|intro el hel|intro ex|refine Z5 ?_|(refine A9 ?_ ?_;exact ⟨by kernel_rfl,by decide⟩)|refine A8 ?_ ?_|exact A7|refine A6 ?_ ?_|exact A5|(refine A0 ?_ ?_ ?_;kernel_rfl;kernel_rfl)) <;> (try (conv=>whnf)))
     all_goals first
      | (exfalso;omega)
      | exact F9 (rs:=[.cell 2 Y7, .tmp 3, .tmp 4, .tmp 5]) (vs:=[_,_,_,_]) rfl ⟨H1 rfl rfl rfl Q8,⟨_,rfl, .nil 1⟩,⟨_,rfl, .refl _⟩,⟨_,rfl, .refl _⟩,trivial⟩ rfl
      | contradiction
   | true =>
     rw [if_neg (show ¬ ¬ (w.length = 2 ∧ true = true) from fun h=>h ⟨hw2,rfl⟩)] at i8
     by_cases hm:m = R7 p
     ·rw [if_neg (show ¬ ¬ m = R7 p from fun h=>h hm)] at i8
      by_cases hu:u = []
      ·rw [if_neg (show ¬ ¬ u = [] from fun h=>h hu)] at i8
       simp only [Prod.mk.injEq] at i8
       obtain ⟨rfl,rfl,rfl⟩:=i8
       have hpr:=GG ⟨r.lists,r.cols⟩ r.rows
       generalize K4 ⟨r.lists,r.cols⟩ r.rows = T at *
       obtain ⟨tx,e⟩:=T
       dsimp only at hpr hE2 hE3
       generalize R7 p = sp at *
       subst hm hu
       by_cases he:e = 0
       ·obtain rfl:=hE3 rfl he
        subst he
        clear hE1 hE2 hE3
        dsimp only [pS,pB,y9]
        repeat' ((first | refine B2 c1 ?_ | refine B2 c2 ?_ | refine B2 c3 ?_ | (refine A3 (x:=L7) g0 (by omega) ?_) | refine B2 c5 ?_ | (refine A3 (x:=z) g1 (by omega) ?_) | refine B2 c4 ?_ | refine B2 hpr ?_ | (refine G2 23 ?_;refine K5 (id:=23) (σ':=⟨[(2, .ref 0 0),(6, .iptr [.sl 2 (r.lists.map D3), .sl 7 (r.cols.map C0), .sl 1 (r.rows.map D2), .i r.st])],1,[(0,some (.box [.v (.slice none 0 0), .v (.slice none 0 0)]))]⟩) (C3 (B0 (σ':=⟨[(2, .ref 0 0),(6, .ref 1 0)],5,[(0,some (.box [.v (.slice none 0 0), .v (.slice none 0 0)])),(1,some (.box [.sl 2 (r.lists.map D3), .sl 7 (r.cols.map C0), .sl 1 (r.rows.map D2), .i r.st]))]⟩) h0 rfl ⟨rfl,rfl,trivial⟩ ⟨rfl,rfl,trivial⟩ rfl rfl rfl) (B0 h0 rfl ⟨rfl,rfl,trivial⟩ ⟨rfl,trivial⟩ rfl rfl rfl)) ?_;refine G6 (id:=23) ⟨[(2, .ref 0 0),(6, .iptr [.sl 2 (r.lists.map D3), .sl 7 (r.cols.map C0), .sl 1 (r.rows.map D2), .i r.st]),(16, .i 0)],1,[(0,some (.box [.v (.slice none 0 0), .v (.slice none 0 0)]))]⟩ ?_ ?_) | (refine G6 (id:=26) ⟨[(2, .ref 0 0),(3, .sl 1 (r.rows.map D2)),(4, .i 0),(5, .i 0)],1,[(0,some (.box [.sl 2 (r.lists.map D3), .sl 7 (r.cols.map C0)]))]⟩ ?_ ?_) |refine A4 ?_|refine S1 ?_|refine Z1 ?_|refine Z2 ?_|(refine And.intro ?_ ?_<;>intro h<;>try first|(exfalso;omega)|exact absurd rfl h)|refine Z3 ?_|refine Z4 ?_|intro el hel hbB|intro el hel|intro ex|refine Z5 ?_|(refine A9 ?_ ?_;exact ⟨by kernel_rfl,by decide⟩)|refine A8 ?_ ?_|exact A7|refine A6 ?_ ?_|exact A5|(refine A0 ?_ ?_ ?_;kernel_rfl;kernel_rfl)) <;> (try (conv=>whnf)))
        all_goals first
         | (exfalso;omega)
         | exact B0 h0 rfl ⟨rfl,rfl,rfl,trivial⟩ ⟨rfl,trivial⟩ rfl rfl rfl
         | exact B0 h0 rfl ⟨rfl,rfl,rfl,rfl,trivial⟩ ⟨rfl,trivial⟩ rfl rfl rfl
         | exact F9 (rs:=[.cell 2 Y7, .tmp 3, .tmp 4, .tmp 5]) (vs:=[_,_,_,_]) rfl ⟨H1 rfl rfl rfl (.refl _),⟨_,rfl, .refl _⟩,⟨_,rfl, .refl _⟩,⟨_,rfl, .refl _⟩,trivial⟩ rfl
         | contradiction
       ·obtain rfl:=hE2 rfl he
        clear hE1 hE2 hE3
        dsimp only [pS,pB,y9]
        repeat' ((first | refine B2 c1 ?_ | refine B2 c2 ?_ | refine B2 c3 ?_ | (refine A3 (x:=L7) g0 (by omega) ?_) | refine B2 c5 ?_ | (refine A3 (x:=z) g1 (by omega) ?_) | refine B2 c4 ?_ | refine B2 hpr ?_ | (refine G2 23 ?_;refine K5 (id:=23) (σ':=⟨[(2, .ref 0 0),(6, .iptr [.sl 2 (r.lists.map D3), .sl 7 (r.cols.map C0), .sl 1 (r.rows.map D2), .i r.st])],1,[(0,some (.box [.v (.slice none 0 0), .v (.slice none 0 0)]))]⟩) (C3 (B0 (σ':=⟨[(2, .ref 0 0),(6, .ref 1 0)],5,[(0,some (.box [.v (.slice none 0 0), .v (.slice none 0 0)])),(1,some (.box [.sl 2 (r.lists.map D3), .sl 7 (r.cols.map C0), .sl 1 (r.rows.map D2), .i r.st]))]⟩) h0 rfl ⟨rfl,rfl,trivial⟩ ⟨rfl,rfl,trivial⟩ rfl rfl rfl) (B0 h0 rfl ⟨rfl,rfl,trivial⟩ ⟨rfl,trivial⟩ rfl rfl rfl)) ?_;refine G6 (id:=23) ⟨[(2, .ref 0 0),(6, .iptr [.sl 2 (r.lists.map D3), .sl 7 (r.cols.map C0), .sl 1 (r.rows.map D2), .i r.st]),(16, .i e)],1,[(0,some (.box [.v (.slice none 0 0), .v (.slice none 0 0)]))]⟩ ?_ ?_) |refine A4 ?_|refine S1 ?_|refine Z1 ?_|refine Z2 ?_|(refine And.intro ?_ ?_<;>intro h<;>try first|(exfalso;omega)|exact absurd rfl h)|refine Z3 ?_|refine Z4 ?_|intro el hel hbB|intro el hel|intro ex|refine Z5 ?_|(refine A9 ?_ ?_;exact ⟨by kernel_rfl,by decide⟩)|refine A8 ?_ ?_|exact A7|refine A6 ?_ ?_|exact A5|(refine A0 ?_ ?_ ?_;kernel_rfl;kernel_rfl)) <;> (try (conv=>whnf)))
        all_goals first
         | (exfalso;omega)
         | exact B0 h0 rfl ⟨rfl,rfl,rfl,trivial⟩ ⟨rfl,trivial⟩ rfl rfl rfl
         | exact B0 h0 rfl ⟨rfl,rfl,rfl,rfl,trivial⟩ ⟨rfl,trivial⟩ rfl rfl rfl
         | exact F9 (rs:=[.cell 2 Y7, .tmp 3, .tmp 4, .tmp 5]) (vs:=[_,_,_,_]) rfl ⟨H1 rfl rfl rfl Q8,⟨_,rfl, .nil 1⟩,⟨_,rfl, .refl _⟩,⟨_,rfl, .refl _⟩,trivial⟩ rfl
         | contradiction
      ·rw [if_pos hu] at i8
       simp only [Prod.mk.injEq] at i8
       obtain ⟨rfl,rfl,rfl⟩:=i8
       obtain rfl:=hE1 (by decide)
       clear hE1 hE2 hE3
       dsimp only [pS,pB,y9]
       generalize R7 p = sp at *
       subst hm
       repeat' ((first | refine B2 c1 ?_ | refine B2 c2 ?_ | refine B2 c3 ?_ | (refine A3 (x:=L7) g0 (by omega) ?_) | refine B2 c5 ?_ | (refine A3 (x:=z) g1 (by omega) ?_) | refine B2 c4 ?_ |refine A4 ?_|refine S1 ?_|refine Z1 ?_|refine Z2 ?_|(refine And.intro ?_ ?_<;>intro h<;>try first|(exfalso;omega)|exact absurd rfl h)|refine Z3 ?_|refine Z4 ?_|intro el hel hbB|intro el hel|intro ex|refine Z5 ?_|(refine A9 ?_ ?_;exact ⟨by kernel_rfl,by decide⟩)|refine A8 ?_ ?_|exact A7|refine A6 ?_ ?_|exact A5|(refine A0 ?_ ?_ ?_;kernel_rfl;kernel_rfl)) <;> (try (conv=>whnf)))
       all_goals first
        | (exfalso;omega)
        | exact F9 (rs:=[.cell 2 Y7, .tmp 3, .tmp 4, .tmp 5]) (vs:=[_,_,_,_]) rfl ⟨H1 rfl rfl rfl Q8,⟨_,rfl, .nil 1⟩,⟨_,rfl, .refl _⟩,⟨_,rfl, .refl _⟩,trivial⟩ rfl
        | contradiction
     ·rw [if_pos hm] at i8
      simp only [Prod.mk.injEq] at i8
      obtain ⟨rfl,rfl,rfl⟩:=i8
      obtain rfl:=hE1 (by decide)
      clear hE1 hE2 hE3
      dsimp only [pS,pB,y9]
      generalize R7 p = sp at *
      repeat' ((first | refine B2 c1 ?_ | refine B2 c2 ?_ | refine B2 c3 ?_ | (refine A3 (x:=L7) g0 (by omega) ?_) | refine B2 c5 ?_ | (refine A3 (x:=z) g1 (by omega) ?_) | refine B2 c4 ?_ |refine A4 ?_|refine S1 ?_|refine Z1 ?_|refine Z2 ?_|(refine And.intro ?_ ?_<;>intro h<;>try first|(exfalso;omega)|exact absurd rfl h)|refine Z3 ?_|refine Z4 ?_|intro el hel hbB|intro el hel|intro ex|refine Z5 ?_|(refine A9 ?_ ?_;exact ⟨by kernel_rfl,by decide⟩)|refine A8 ?_ ?_|exact A7|refine A6 ?_ ?_|exact A5|(refine A0 ?_ ?_ ?_;kernel_rfl;kernel_rfl)) <;> (try (conv=>whnf)))
      all_goals first
       | (exfalso;omega)
       | exact F9 (rs:=[.cell 2 Y7, .tmp 3, .tmp 4, .tmp 5]) (vs:=[_,_,_,_]) rfl ⟨H1 rfl rfl rfl Q8,⟨_,rfl, .nil 1⟩,⟨_,rfl, .refl _⟩,⟨_,rfl, .refl _⟩,trivial⟩ rfl
       | contradiction
  ·rw [if_pos (show ¬ (w.length = 2 ∧ (H4 (B6 w 1)).2 = true) from fun h=>hw2 h.1)] at i8
   simp only [Prod.mk.injEq] at i8
   obtain ⟨rfl,rfl,rfl⟩:=i8
   obtain rfl:=hE1 (by decide)
   clear hE1 hE2 hE3
   dsimp only [pS,pB,y9]
   clear c4
   repeat' ((first | refine B2 c1 ?_ | refine B2 c2 ?_ | refine B2 c3 ?_ | (refine A3 (x:=L7) g0 (by omega) ?_) |refine A4 ?_|refine S1 ?_|refine Z1 ?_|refine Z2 ?_|(refine And.intro ?_ ?_<;>intro h<;>try first|(exfalso;omega)|exact absurd rfl h)|refine Z3 ?_|refine Z4 ?_|intro el hel hbB|intro el hel|intro ex|refine Z5 ?_|(refine A9 ?_ ?_;exact ⟨by kernel_rfl,by decide⟩)|refine A8 ?_ ?_|exact A7|refine A6 ?_ ?_|exact A5|(refine A0 ?_ ?_ ?_;kernel_rfl;kernel_rfl)) <;> (try (conv=>whnf)))
   all_goals first
    | (exfalso;omega)
    | exact F9 (rs:=[.cell 2 Y7, .tmp 3, .tmp 4, .tmp 5]) (vs:=[_,_,_,_]) rfl ⟨H1 rfl rfl rfl Q8,⟨_,rfl, .nil 1⟩,⟨_,rfl, .refl _⟩,⟨_,rfl, .refl _⟩,trivial⟩ rfl
    | contradiction
 have hnsI:=hns
 rw [if_neg hns] at i8
 clear c4
 by_cases hrow:B6 w 0 = N3
 ·have hS:St.le E 112 (pS t0 false r n p.length) ⟨[(0, .str t0),(2, .ref 0 0),(6, .ref 1 0),(7, .i p.length),(8, .i n)],5,[(0,some (.box [.v (.slice none 0 0), .v (.slice none 0 0)])),(1,some (.box [.row 2 0 r.lists.length, .row 3 0 r.cols.length, .row 4 0 r.rows.length, .i r.st])),(2,some (.row K3 2 0 (r.lists.map D3))),(3,some (.row (E9 + J2) 7 0 (r.cols.map C0))),(4,some (.row I3 1 0 (r.rows.map D2)))]⟩:=C3 (VY (i:=3) rfl (by omega) (by decide)) (B0 h0 rfl ⟨rfl,rfl,rfl,rfl,rfl,trivial⟩ ⟨rfl,rfl,⟨_,rfl⟩,⟨_,rfl⟩,⟨_,rfl⟩,trivial⟩ rfl rfl rfl)
  refine O6 hS ?_
  clear hS
  have hq:=Wh r w hwp (by omega) (by omega) hwl hrow
  have hsz:=Dt r w
  have hs0:=fun h=>Jz (r:=r) (w:=w) hl h
  generalize L5 r w = R at *
  obtain ⟨r2,ok⟩:=R
  dsimp only at hq hsz i8 hs0
  obtain ⟨ls,cs,rs,st⟩:=r
  obtain ⟨ls2,cs2,rs2,st2⟩:=r2
  dsimp only at *
  cases ok with
  | false =>
    rw [if_pos rfl] at i8
    simp only [Prod.mk.injEq] at i8
    obtain ⟨rfl,rfl,rfl⟩:=i8
    obtain rfl:=hE1 (by decide)
    clear hE1 hE2 hE3
    repeat' ((first | refine B2 c1 ?_ | refine B2 c2 ?_ | refine B2 c3 ?_ | (refine A3 (x:=B6 w 0) g0 (by omega) ?_) |refine A4 ?_|refine S1 ?_|refine Z1 ?_|refine Z2 ?_|(refine And.intro ?_ ?_<;>intro h<;>try first|(exfalso;omega)|exact absurd rfl h)|refine Z3 ?_|refine Z4 ?_|intro el hel hbB|intro el hel|intro ex|refine Z5 ?_|(refine A9 ?_ ?_;exact ⟨by kernel_rfl,by decide⟩)|refine A8 ?_ ?_|exact A7|refine A6 ?_ ?_|exact A5|(refine A0 ?_ ?_ ?_;kernel_rfl;kernel_rfl) | refine nc [1,2,3,4] [0,0,0,0] hq rfl rfl rfl ⟨rfl,rfl,rfl,rfl,trivial⟩ ?_) <;> (try (conv=>whnf)))
    all_goals first
     | (exfalso;omega)
     | exact F9 (rs:=[.cell 2 Y7, .tmp 3, .tmp 4, .tmp 5]) (vs:=[_,_,_,_]) rfl ⟨H1 rfl rfl rfl Q8,⟨_,rfl, .nil 1⟩,⟨_,rfl, .refl _⟩,⟨_,rfl, .refl _⟩,trivial⟩ rfl
     | contradiction
  | true =>
    rw [if_neg (by decide)] at i8
    have hs0:=hs0 rfl
    have hA1:u.length < f:=by omega
    have hA2:n + 1 + u.length ≤ 20001:=by omega
    have hA3:Y6 ⟨ls2,cs2,rs2,st2⟩ ≤ n + 1:=by omega
    have hA4:(p.length:Int) + ((l.length:Int) + 1) = (((p ++ l ++ [10]).length:Nat):Int):=by simp only [List.length_append,List.length_singleton];omega
    have hA5:(n:Int) + 1 = ((n + 1:Nat):Int):=by omega
    have hA6:u.length < t.length:=by omega
    have hb:(l.length:Int) ≤ 20000 ∧ (p.length:Int) ≤ 20000 ∧ (n:Int) ≤ 20001:=by omega
    obtain ⟨hb1,hb2,hb3⟩:=hb
    repeat' ((first | refine B2 c1 ?_ | refine B2 c2 ?_ | refine B2 c3 ?_ | (refine A3 (x:=B6 w 0) g0 (by omega) ?_) |refine A4 ?_|refine S1 ?_|refine Z1 ?_|refine Z2 ?_|(refine And.intro ?_ ?_<;>intro h<;>try first|(exfalso;omega)|exact absurd rfl h)|refine Z3 ?_|refine Z4 ?_|intro el hel hbB|intro el hel|intro ex|refine Z5 ?_|(refine A9 ?_ ?_;exact ⟨by kernel_rfl,by decide⟩)|refine A8 ?_ ?_|exact A7|refine A6 ?_ ?_|exact A5|(refine A0 ?_ ?_ ?_;kernel_rfl;kernel_rfl) | refine nc [1,2,3,4] [0,0,0,0] hq rfl rfl rfl ⟨rfl,rfl,rfl,rfl,trivial⟩ ?_) <;> (try (conv=>whnf)))
    all_goals first
     | (exfalso;omega)
     | exact ⟨(false,⟨ls2,cs2,rs2,st2⟩,n + 1,p ++ l ++ [10],u,f),⟨hp3.symm,hA1,Nat.succ_pos n,hA2,hA3,(fun h=>by cases h),(fun _=>hs0),i8⟩,hA6,C3 (Pu (i:=3) rfl (by decide)) (B0 h0 rfl ⟨rfl,rfl,rfl,congrArg (fun z=>some (AV.i z)) hA4,congrArg (fun z=>some (AV.i z)) hA5,trivial⟩ ⟨rfl,rfl,⟨_,rfl⟩,⟨_,rfl⟩,⟨_,rfl⟩,trivial⟩ rfl rfl rfl)⟩
     | exact absurd (by assumption) hnsI
     | contradiction
 ·dsimp only [pS,pB,y9]
  have hq:=Wg r w hwp (by omega) (by omega) hwn hwl hl hrow
  have hsz:=Dt r w
  have hs0:=fun h=>Jz (r:=r) (w:=w) hl h
  generalize L5 r w = R at *
  obtain ⟨r2,ok⟩:=R
  dsimp only at hq hsz i8 hs0
  obtain ⟨ls,cs,rs,st⟩:=r
  obtain ⟨ls2,cs2,rs2,st2⟩:=r2
  dsimp only at *
  cases ok with
  | false =>
    rw [if_pos rfl] at i8
    simp only [Prod.mk.injEq] at i8
    obtain ⟨rfl,rfl,rfl⟩:=i8
    obtain rfl:=hE1 (by decide)
    clear hE1 hE2 hE3
    repeat' ((first | refine B2 c1 ?_ | refine B2 c2 ?_ | refine B2 c3 ?_ | (refine A3 (x:=B6 w 0) g0 (by omega) ?_) |refine A4 ?_|refine S1 ?_|refine Z1 ?_|refine Z2 ?_|(refine And.intro ?_ ?_<;>intro h<;>try first|(exfalso;omega)|exact absurd rfl h)|refine Z3 ?_|refine Z4 ?_|intro el hel hbB|intro el hel|intro ex|refine Z5 ?_|(refine A9 ?_ ?_;exact ⟨by kernel_rfl,by decide⟩)|refine A8 ?_ ?_|exact A7|refine A6 ?_ ?_|exact A5|(refine A0 ?_ ?_ ?_;kernel_rfl;kernel_rfl) | refine nc [1,2,3,4] [0,0,0,0] hq rfl rfl rfl ⟨rfl,rfl,rfl,rfl,trivial⟩ ?_) <;> (try (conv=>whnf)))
    all_goals first
     | (exfalso;omega)
     | exact F9 (rs:=[.cell 2 Y7, .tmp 3, .tmp 4, .tmp 5]) (vs:=[_,_,_,_]) rfl ⟨H1 rfl rfl rfl Q8,⟨_,rfl, .nil 1⟩,⟨_,rfl, .refl _⟩,⟨_,rfl, .refl _⟩,trivial⟩ rfl
     | contradiction
  | true =>
    rw [if_neg (by decide)] at i8
    have hs0:=hs0 rfl
    have hA1:u.length < f:=by omega
    have hA2:n + 1 + u.length ≤ 20001:=by omega
    have hA3:Y6 ⟨ls2,cs2,rs2,st2⟩ ≤ n + 1:=by omega
    have hA4:(p.length:Int) + ((l.length:Int) + 1) = (((p ++ l ++ [10]).length:Nat):Int):=by simp only [List.length_append,List.length_singleton];omega
    have hA5:(n:Int) + 1 = ((n + 1:Nat):Int):=by omega
    have hA6:u.length < t.length:=by omega
    have hb:(l.length:Int) ≤ 20000 ∧ (p.length:Int) ≤ 20000 ∧ (n:Int) ≤ 20001:=by omega
    obtain ⟨hb1,hb2,hb3⟩:=hb
    repeat' ((first | refine B2 c1 ?_ | refine B2 c2 ?_ | refine B2 c3 ?_ | (refine A3 (x:=B6 w 0) g0 (by omega) ?_) |refine A4 ?_|refine S1 ?_|refine Z1 ?_|refine Z2 ?_|(refine And.intro ?_ ?_<;>intro h<;>try first|(exfalso;omega)|exact absurd rfl h)|refine Z3 ?_|refine Z4 ?_|intro el hel hbB|intro el hel|intro ex|refine Z5 ?_|(refine A9 ?_ ?_;exact ⟨by kernel_rfl,by decide⟩)|refine A8 ?_ ?_|exact A7|refine A6 ?_ ?_|exact A5|(refine A0 ?_ ?_ ?_;kernel_rfl;kernel_rfl) | refine nc [1,2,3,4] [0,0,0,0] hq rfl rfl rfl ⟨rfl,rfl,rfl,rfl,trivial⟩ ?_) <;> (try (conv=>whnf)))
    all_goals first
     | (exfalso;omega)
     | exact ⟨(false,⟨ls2,cs2,rs2,st2⟩,n + 1,p ++ l ++ [10],u,f),⟨hp3.symm,hA1,Nat.succ_pos n,hA2,hA3,(fun h=>by cases h),(fun _=>hs0),i8⟩,hA6,B0 h0 rfl ⟨rfl,rfl,rfl,congrArg (fun z=>some (AV.i z)) hA4,congrArg (fun z=>some (AV.i z)) hA5,trivial⟩ ⟨rfl,rfl,⟨_,rfl⟩,⟨_,rfl⟩,⟨_,rfl⟩,trivial⟩ rfl rfl rfl⟩
     | exact absurd (by assumption) hnsI
     | contradiction
end Go.Proofs.YtiphlhoclaogjabGreatDoor
