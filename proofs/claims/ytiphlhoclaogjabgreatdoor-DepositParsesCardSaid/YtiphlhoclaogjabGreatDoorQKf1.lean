/- Chapter 3: the reference's Parse. -/
import Derived.Test.YtiphlhoclaogjabGreatDoorQKe6
import Derived.Test.YtiphlhoclaogjabGreatDoorQKb1
set_option linter.unusedVariables false
set_option linter.unnecessarySimpa false
set_option linter.unusedSimpArgs false
namespace Go.Proofs.YtiphlhoclaogjabGreatDoor
open Go Go.Av
attribute [local irreducible] D6 B8 D8 D7 DQ E0 E1 St.le B4 B9
set_option maxRecDepth 100000
theorem VT (c:UInt8):∀ t:List UInt8,Lib.index t [c] = if t.dropWhile (D0 c) = [] then -1 else ((t.takeWhile (D0 c)).length:Int)
 | []=>rfl
 | b :: r=>by
   unfold Lib.index
   by_cases h:b = c
   ·subst h
    have hn:D0 b b = false:=by unfold D0;simp
    rw [if_pos (by simp [List.isPrefixOf]),List.dropWhile_cons,List.takeWhile_cons,hn,if_neg (by simp),if_neg (by simp)]
    rfl
   ·have hn:D0 c b = true:=by unfold D0;simp [h]
    have hp:¬ ([c].isPrefixOf (b :: r) = true):=by
     simp only [List.isPrefixOf,Bool.and_true]
     intro e
     exact h (beq_iff_eq.1 e).symm
    rw [if_neg hp,VT c r,List.dropWhile_cons,List.takeWhile_cons,hn,if_pos rfl,if_pos rfl]
    by_cases g:r.dropWhile (D0 c) = []
    ·rw [if_pos g,if_pos g];rfl
    ·rw [if_neg g,if_neg g,if_neg (by simp <;> omega),List.length_cons];omega
theorem Uk (w t:List UInt8):(H9 w t).2 = w.isPrefixOf t:=by
 unfold H9
 cases h:w.isPrefixOf t with
 | true=>rw [if_pos rfl]
 | false=>rw [if_neg (by decide)]
abbrev qS (t0:List UInt8) (g:Nat) (x:Fl) (n a:Nat):St:=match g with
 | 0=>⟨[(0, .str t0),(2, .ref 0 0),(6, .ref 1 0),(7, .i a),(8, .i n)],5,[(0,some (.box [.v (.slice none 0 0), .v (.slice none 0 0)])),(1,some (.box [.row 2 0 x.1.length, .row 3 0 x.2.1.length, .row 4 0 x.2.2.length])),(2,some (y9 true x.1)),(3,some (.row J2 7 0 (x.2.1.map C0))),(4,some (.row I3 1 0 (x.2.2.map D2)))]⟩
 | 1=>⟨[(0, .str t0),(2, .ref 0 0),(6, .ref 1 0),(7, .i a),(8, .i n)],5,[(0,some (.box [.v (.slice none 0 0), .v (.slice none 0 0)])),(1,some (.box [.row 2 0 x.1.length, .row 3 0 x.2.1.length, .row 4 0 x.2.2.length])),(2,some (y9 false x.1)),(3,some (.row J2 7 0 (x.2.1.map C0))),(4,some (.row I3 1 0 (x.2.2.map D2)))]⟩
 | _=>⟨[(0, .str t0),(2, .ref 0 0),(6, .ref 1 0),(7, .i a),(8, .i n)],5,[(0,some (.box [.v (.slice none 0 0), .v (.slice none 0 0)])),(1,some (.box [.sl 2 (x.1.map D3), .sl 7 (x.2.1.map C0), .row 4 0 x.2.2.length])),(4,some (.row I3 1 0 (x.2.2.map D2)))]⟩
abbrev qZ (t0:List UInt8) (x:Fl) (n a:Nat):St:=⟨[(0, .str t0),(2, .ref 0 0),(6, .ref 1 0),(7, .i a),(8, .i n)],5,[(0,some (.box [.v (.slice none 0 0), .v (.slice none 0 0)])),(1,some (.box [.sl 2 (x.1.map D3), .sl 7 (x.2.1.map C0), .sl 1 (x.2.2.map D2)]))]⟩
theorem Zi {E:Env} {m:Nat} {t0:List UInt8} {x:Fl} {n a:Nat} (h0:E.n0 = 0):St.le E m (qS t0 0 x n a) (qS t0 1 x n a) :=
 C3 (CM (i:=2) (l':=x.1.map D3) (.inl rfl) rfl (by decide) (Cy x.1)) (B0 h0 rfl ⟨rfl,rfl,rfl,rfl,rfl,trivial⟩ ⟨rfl,rfl,⟨_,rfl⟩,⟨_,rfl⟩,⟨_,rfl⟩,trivial⟩ rfl rfl rfl)
theorem Zj {E:Env} {m:Nat} {t0:List UInt8} {x:Fl} {n a:Nat} (h0:E.n0 = 0):St.le E m (qS t0 1 x n a) (qS t0 2 x n a) :=
 C3 (ET 2) (C3 (ET 3) (B0 h0 rfl ⟨rfl,rfl,rfl,rfl,rfl,trivial⟩ ⟨rfl,rfl,⟨_,rfl⟩,trivial⟩ rfl rfl rfl))
theorem az {E:Env} {m:Nat} {t0:List UInt8} {x:Fl} {n a:Nat} (h0:E.n0 = 0):St.le E m (qS t0 2 x n a) (qZ t0 x n a) :=
 C3 (ET 4) (B0 h0 rfl ⟨rfl,rfl,rfl,rfl,rfl,trivial⟩ ⟨rfl,rfl,trivial⟩ rfl rfl rfl)
theorem VU {E:Env} {m:Nat} {t0:List UInt8} {g:Nat} {x:Fl} {n a:Nat} (h0:E.n0 = 0):St.le E m (qS t0 g x n a) (qS t0 2 x n a):=by
 match g with
 | 0=>exact C3 (Zi h0) (Zj h0)
 | 1=>exact Zj h0
 | g + 2=>exact B7
set_option maxHeartbeats 8000000 in
theorem Pr (t0:List UInt8) (hl:20000 < t0.length):B4 Tryz.prog 18 [.str t0] (.tup [sA ⟨[],[]⟩, .sl 1 (([]:List (List Int)).map D2), .i (0:Nat), .i 1]):=by
 refine F3 Tryz.func18 98 fun hrd E h0=>?_
 clear hrd
 repeat' ((first|refine A4 ?_|refine S1 ?_|refine Z1 ?_|refine Z2 ?_|(refine And.intro ?_ ?_<;>intro h<;>try first|(exfalso;omega)|exact absurd rfl h)|refine Z3 ?_|refine Z4 ?_|intro el hel hbB|intro el hel|intro ex|refine Z5 ?_|(refine A9 ?_ ?_;exact ⟨by kernel_rfl,by decide⟩)|refine A8 ?_ ?_|exact A7|refine A6 ?_ ?_|exact A5|(refine A0 ?_ ?_ ?_;kernel_rfl;kernel_rfl)) <;> (try (conv=>whnf)))
 all_goals first
  | (exfalso;omega)
  | exact F9 (rs:=[.cell 2 Y7, .tmp 3, .tmp 4, .tmp 5]) (vs:=[_,_,_,_]) rfl ⟨H1 rfl rfl rfl Q8,⟨_,rfl, .nil 1⟩,⟨_,rfl, .refl _⟩,⟨_,rfl, .refl _⟩,trivial⟩ rfl
set_option maxHeartbeats 64000000 in
theorem IJ (t0:List UInt8):B4 Tryz.prog 18 [.str t0] (.tup [sA (Dw t0).1.1, .sl 1 ((Dw t0).1.2.map D2), .i (Dw t0).2.1, .i (Dw t0).2.2]):=by
 unfold Dw
 by_cases hl:20000 < t0.length
 ·rw [if_pos hl];exact Pr t0 hl
 rw [if_neg hl]
 generalize hZ:S4 (t0.length + 1) ([],[],[]) 1 [] t0 = Z
 obtain ⟨Zx,Zn,Ze⟩:=Z
 dsimp only
 have hE1:¬ Ze = 0 → (if ¬ Ze = 0 then (((⟨[],[]⟩,[]),Zn,Ze):(C4 × List (List Int)) × Nat × Int) else if ¬ (K4 ⟨Zx.1,Zx.2.1⟩ Zx.2.2).2 = 0 then ((⟨[],[]⟩,[]),0,(K4 ⟨Zx.1,Zx.2.1⟩ Zx.2.2).2) else ((⟨Zx.1,Zx.2.1⟩,Zx.2.2),0,0)) = ((⟨[],[]⟩,[]),Zn,Ze):=fun h=>if_pos h
 have hE2:Ze = 0 → ¬ (K4 ⟨Zx.1,Zx.2.1⟩ Zx.2.2).2 = 0 → (if ¬ Ze = 0 then (((⟨[],[]⟩,[]),Zn,Ze):(C4 × List (List Int)) × Nat × Int) else if ¬ (K4 ⟨Zx.1,Zx.2.1⟩ Zx.2.2).2 = 0 then ((⟨[],[]⟩,[]),0,(K4 ⟨Zx.1,Zx.2.1⟩ Zx.2.2).2) else ((⟨Zx.1,Zx.2.1⟩,Zx.2.2),0,0)) = ((⟨[],[]⟩,[]),0,(K4 ⟨Zx.1,Zx.2.1⟩ Zx.2.2).2):=fun h g=>by rw [if_neg (fun k=>k h),if_pos g]
 have hE3:Ze = 0 → (K4 ⟨Zx.1,Zx.2.1⟩ Zx.2.2).2 = 0 → (if ¬ Ze = 0 then (((⟨[],[]⟩,[]),Zn,Ze):(C4 × List (List Int)) × Nat × Int) else if ¬ (K4 ⟨Zx.1,Zx.2.1⟩ Zx.2.2).2 = 0 then ((⟨[],[]⟩,[]),0,(K4 ⟨Zx.1,Zx.2.1⟩ Zx.2.2).2) else ((⟨Zx.1,Zx.2.1⟩,Zx.2.2),0,0)) = ((⟨Zx.1,Zx.2.1⟩,Zx.2.2),0,0):=fun h g=>by rw [if_neg (fun k=>k h),if_neg (fun k=>k g)]
 generalize hX:(if ¬ Ze = 0 then (((⟨[],[]⟩,[]),Zn,Ze):(C4 × List (List Int)) × Nat × Int) else if ¬ (K4 ⟨Zx.1,Zx.2.1⟩ Zx.2.2).2 = 0 then ((⟨[],[]⟩,[]),0,(K4 ⟨Zx.1,Zx.2.1⟩ Zx.2.2).2) else ((⟨Zx.1,Zx.2.1⟩,Zx.2.2),0,0)) = X at *
 clear hX
 refine F3 Tryz.func18 98 fun hrd E h0=>?_
 clear hrd
 repeat' ((first|refine A4 ?_|refine S1 ?_|refine Z1 ?_|refine Z2 ?_|(refine And.intro ?_ ?_<;>intro h<;>try first|(exfalso;omega)|exact absurd rfl h)|refine Z3 ?_|refine Z4 ?_|intro el hel hbB|intro el hel|intro ex|refine Z5 ?_|(refine A9 ?_ ?_;exact ⟨by kernel_rfl,by decide⟩)|refine A8 ?_ ?_|exact A7|refine A6 ?_ ?_|exact A5|(refine A0 ?_ ?_ ?_;kernel_rfl;kernel_rfl)) <;> (try (conv=>whnf)))
 all_goals first
  | (exfalso;omega)
  | skip
 refine C2 (ι:=Nat × Fl × Nat × List UInt8 × List UInt8 × Nat) (fun x=>qS t0 x.1 x.2.1 x.2.2.1 x.2.2.2.1.length) (fun x=>t0 = x.2.2.2.1 ++ x.2.2.2.2.1 ∧ x.2.2.2.2.1.length < x.2.2.2.2.2 ∧ 1 ≤ x.2.2.1 ∧ x.2.2.1 + x.2.2.2.2.1.length ≤ 20001 ∧ OK x.2.1 ≤ x.2.2.1 ∧ (x.1 = 0 → x.2.1.2.1 = [] ∧ x.2.1.2.2 = []) ∧ (x.1 = 1 → ¬ x.2.1.2.1 = [] ∧ x.2.1.2.2 = []) ∧ (2 ≤ x.1 → ¬ x.2.1.2.2 = []) ∧ x.1 ≤ 2 ∧ S4 x.2.2.2.2.2 x.2.1 x.2.2.1 x.2.2.2.1 x.2.2.2.2.1 = (Zx,Zn,Ze)) (fun x=>x.2.2.2.2.1.length) (0,([],[],[]),1,[],t0,t0.length + 1) ⟨rfl,by dsimp only;omega,by dsimp only;omega,by dsimp only;omega,Nat.zero_le _,(fun _=>⟨rfl,rfl⟩),(fun h=>by cases h),(fun h=>absurd h (by dsimp only;omega)),by dsimp only;omega,hZ⟩
  (by
   refine C3 (Z7 1 0 (e:=K3) (sz:=2) rfl rfl) ?_
   refine C3 (Z7 1 1 (e:=J2) (sz:=7) rfl rfl) ?_
   refine C3 (Z7 1 2 (e:=I3) (sz:=1) rfl rfl) ?_
   refine C3 (Fb (i:=2) (F:=G0) (l':=[]) (.inl rfl) rfl (fun h=>absurd h (by decide)) (by decide) ⟨rfl,fun k b hb=>by simp at hb⟩) ?_
   exact B0 h0 rfl ⟨rfl,rfl,rfl,rfl,rfl,trivial⟩ ⟨rfl,rfl,⟨_,rfl⟩,⟨_,rfl⟩,⟨_,rfl⟩,trivial⟩ rfl rfl rfl) (fun x hI=>?_)
 obtain ⟨g,x,n,p,t,f⟩:=x
 obtain ⟨i1,i2,i3,i4,i5,i6,i7,i9,i10,i8⟩:=hI
 dsimp only at i1 i2 i3 i4 i5 i6 i7 i8 i9 i10 ⊢
 clear hZ
 obtain ⟨f,rfl⟩:∃ g,f = g + 1:=⟨f - 1,by omega⟩
 rw [S4] at i8
 have hlen:t0.length = p.length + t.length:=by rw [i1,List.length_append]
 have hraw:List.drop (p.length:Int).toNat (List.take (t0.length:Int).toNat t0) = t:=by
  rw [Int.toNat_natCast,Int.toNat_natCast,List.take_length,i1,List.drop_left]
 have hraw2:List.drop ((0:Nat):Int).toNat (List.take (p.length:Int).toNat t0) = p:=by
  rw [Int.toNat_natCast,Int.toNat_natCast,i1,List.take_left];rfl
 have hll:=MW t
 have htw:=IC 10 t
 have c1:B4 Tryz.prog 45 [.str (List.drop (p.length:Int).toNat (List.take (t0.length:Int).toNat t0)), .str [10]] (.i (if t.dropWhile (D0 10) = [] then -1 else ((t.takeWhile (D0 10)).length:Int))):=by
  rw [hraw, ← VT]
  exact NP t [10] (by omega)
 have c4:B4 Tryz.prog 13 [.str (List.drop ((0:Nat):Int).toNat (List.take (p.length:Int).toNat t0))] (.i (R7 p)):=by
  rw [hraw2]
  exact Ev p (by omega)
 have hl1:(t.takeWhile (D0 10)).length ≤ 20000:=by
  have:=Cz t
  omega
 have hwl:∀ z ∈ I0 [32] (t.takeWhile (D0 10)),z.length ≤ 20000:=fun z hz=>Nat.le_trans (Rs _ _ z hz) hl1
 have hwn:(I0 [32] (t.takeWhile (D0 10))).length ≤ 20001:=Nat.le_trans (Ds [32] _ _) (by omega)
 have hwp:0 < (I0 [32] (t.takeWhile (D0 10))).length:=List.length_pos_iff.2 (Cw [32] _ _)
 have c2:B4 Tryz.prog 38 [.str (t.takeWhile (D0 10)), .str [32]] (.sl 1 ((I0 [32] (t.takeWhile (D0 10))).map C1)):=IE (t.takeWhile (D0 10)) [32] (by omega) (by simp)
 have hp2:t.dropWhile (D0 10) ≠ [] → (p ++ t.takeWhile (D0 10) ++ [10]) ++ (t.dropWhile (D0 10)).drop 1 = t0:=fun h=>by
  rw [i1]
  have:=Rq h
  conv=>rhs;rw [this]
  simp only [List.append_assoc]
 obtain ⟨s1,s2,s3,s4⟩:=Jy ⟨x.1,x.2.1,x.2.2,0⟩
 have hbd:n ≤ 20001:=by omega
 clear hraw hraw2
 generalize hD:t.dropWhile (D0 10) = D at *
 generalize D.drop 1 = u at *
 generalize t.takeWhile (D0 10) = l at *
 have e10:(List.drop (p.length:Int).toNat (List.take ((p.length:Int) + (l.length:Int)).toNat t0)) = l:=by
  have htw2:t = l ++ D:=by first | exact htw | exact htw.symm
  rw [show ((p.length:Int) + (l.length:Int)).toNat = p.length + l.length by omega,Int.toNat_natCast,i1,List.take_length_add_append,List.drop_left,htw2,List.take_left]
 have c3:B4 Tryz.prog 46 [.str (List.drop (p.length:Int).toNat (List.take ((p.length:Int) + (l.length:Int)).toNat t0)), .str l6] (.b (l6.isPrefixOf l)):=by
  rw [e10, ← Uk]
  exact Ir l l6 (by omega) (by decide)
 have hE0:(n:Int) ≤ 20001:=by omega
 have hE4:(l.length:Int) ≤ 20000 ∧ (p.length:Int) ≤ 20000 ∧ (t0.length:Int) ≤ 20000:=by omega
 obtain ⟨hb1,hb2,hb3⟩:=hE4
 by_cases hD0:D = []
 ·rw [if_pos hD0] at i8 c1 hll
  simp only [Prod.mk.injEq] at i8
  obtain ⟨rfl,rfl,rfl⟩:=i8
  obtain rfl:=hE1 (by decide)
  clear hE1 hE2 hE3 c2 c3 c4
  refine O6 (VU h0) ?_
  dsimp only [qS]
  repeat' ((first | refine B2 c1 ?_ |refine A4 ?_|refine S1 ?_|refine Z1 ?_|refine Z2 ?_|(refine And.intro ?_ ?_<;>intro h<;>try first|(exfalso;omega)|exact absurd rfl h)|refine Z3 ?_|refine Z4 ?_|intro el hel hbB|intro el hel|intro ex|refine Z5 ?_|(refine A9 ?_ ?_;exact ⟨by kernel_rfl,by decide⟩)|refine A8 ?_ ?_|exact A7|refine A6 ?_ ?_|exact A5|(refine A0 ?_ ?_ ?_;kernel_rfl;kernel_rfl)) <;> (try (conv=>whnf)))
  all_goals first
   | (exfalso;omega)
   | exact F9 (rs:=[.cell 2 Y7, .tmp 3, .tmp 4, .tmp 5]) (vs:=[_,_,_,_]) rfl ⟨H1 rfl rfl rfl Q8,⟨_,rfl, .nil 1⟩,⟨_,rfl, .refl _⟩,⟨_,rfl, .refl _⟩,trivial⟩ rfl
   | contradiction
 rw [if_neg hD0] at i8 c1 hll
 have hp3:=hp2 hD0
 clear hp2
 by_cases hks:l6.isPrefixOf l = true
 ·rw [if_pos hks] at i8
  rw [hks] at c3
  have hl4:4 ≤ l.length:=(List.isPrefixOf_iff_prefix.1 hks).length_le
  have c5:B4 Tryz.prog 47 [.str (List.drop (4:Int).toNat (List.take ((List.drop (p.length:Int).toNat (List.take ((p.length:Int) + (l.length:Int)).toNat t0)).length:Int).toNat (List.drop (p.length:Int).toNat (List.take ((p.length:Int) + (l.length:Int)).toNat t0))))] (.tup [.i (D1 (l.drop 4)).1, .b (D1 (l.drop 4)).2]):=by
   rw [e10,Int.toNat_natCast,List.take_length]
   exact L3 (l.drop 4) (by rw [List.length_drop];omega)
  have hRl:(List.drop (p.length:Int).toNat (List.take ((p.length:Int) + (l.length:Int)).toNat t0)).length = l.length:=by rw [e10]
  clear c2 e10
  generalize D1 (l.drop 4) = q at *
  obtain ⟨m,ok⟩:=q
  dsimp only at c5 i8
  refine O6 (C3 (VU h0) (az h0)) ?_
  dsimp only [qZ]
  have NX:True:=trivial
  by_cases hok:ok = true
  ·subst hok
   rw [if_neg (fun h=>h rfl)] at i8
   by_cases hm:m = R7 p
   ·rw [if_neg (fun h=>h hm)] at i8
    by_cases hu:u = []
    ·rw [if_neg (fun h=>h hu)] at i8
     simp only [Prod.mk.injEq] at i8
     obtain ⟨rfl,rfl,rfl⟩:=i8
     have hpr:=FA ⟨x.1,x.2.1⟩ x.2.2
     have hll0:t.length = l.length + 1:=by
      rw [hu] at hll
      simp only [List.length_nil] at hll
      omega
     clear hll
     generalize K4 ⟨x.1,x.2.1⟩ x.2.2 = T at *
     obtain ⟨tx,e⟩:=T
     dsimp only at hpr hE2 hE3
     generalize R7 p = sp at *
     subst hm hu
     by_cases he:e = 0
     ·obtain rfl:=hE3 rfl he
      subst he
      clear hE1 hE2 hE3
      repeat' ((first | refine B2 c1 ?_ | refine B2 c3 ?_ | refine B2 c5 ?_ | refine B2 c4 ?_ | refine B2 hpr ?_ | (refine G6 (id:=27) ⟨[(2, .ref 0 0),(3, .sl 1 (x.2.2.map D2)),(4, .i 0),(5, .i 0)],1,[(0,some (.box [.sl 2 (x.1.map D3), .sl 7 (x.2.1.map C0)]))]⟩ ?_ ?_) |refine A4 ?_|refine S1 ?_|refine Z1 ?_|refine Z2 ?_|(refine And.intro ?_ ?_<;>intro h<;>try first|(exfalso;omega)|exact absurd rfl h)|refine Z3 ?_|refine Z4 ?_|intro el hel hbB|intro el hel|intro ex|refine Z5 ?_|(refine A9 ?_ ?_;exact ⟨by kernel_rfl,by decide⟩)|refine A8 ?_ ?_|exact A7|refine A6 ?_ ?_|exact A5|(refine A0 ?_ ?_ ?_;kernel_rfl;kernel_rfl)) <;> (try (conv=>whnf)))
      all_goals first
       | (exfalso;omega)
       | exact B0 h0 rfl ⟨rfl,rfl,rfl,rfl,trivial⟩ ⟨rfl,trivial⟩ rfl rfl rfl
       | exact F9 (rs:=[.cell 2 Y7, .tmp 3, .tmp 4, .tmp 5]) (vs:=[_,_,_,_]) rfl ⟨H1 rfl rfl rfl (.refl _),⟨_,rfl, .refl _⟩,⟨_,rfl, .refl _⟩,⟨_,rfl, .refl _⟩,trivial⟩ rfl
       | contradiction
     ·obtain rfl:=hE2 rfl he
      clear hE1 hE2 hE3
      repeat' ((first | refine B2 c1 ?_ | refine B2 c3 ?_ | refine B2 c5 ?_ | refine B2 c4 ?_ | refine B2 hpr ?_ |refine A4 ?_|refine S1 ?_|refine Z1 ?_|refine Z2 ?_|(refine And.intro ?_ ?_<;>intro h<;>try first|(exfalso;omega)|exact absurd rfl h)|refine Z3 ?_|refine Z4 ?_|intro el hel hbB|intro el hel|intro ex|refine Z5 ?_|(refine A9 ?_ ?_;exact ⟨by kernel_rfl,by decide⟩)|refine A8 ?_ ?_|exact A7|refine A6 ?_ ?_|exact A5|(refine A0 ?_ ?_ ?_;kernel_rfl;kernel_rfl)) <;> (try (conv=>whnf)))
      all_goals first
       | (exfalso;omega)
       | exact F9 (rs:=[.cell 2 Y7, .tmp 3, .tmp 4, .tmp 5]) (vs:=[_,_,_,_]) rfl ⟨H1 rfl rfl rfl Q8,⟨_,rfl, .nil 1⟩,⟨_,rfl, .refl _⟩,⟨_,rfl, .refl _⟩,trivial⟩ rfl
       | contradiction
    ·rw [if_pos hu] at i8
     simp only [Prod.mk.injEq] at i8
     obtain ⟨rfl,rfl,rfl⟩:=i8
     obtain rfl:=hE1 (by decide)
     clear hE1 hE2 hE3
     have hu2:0 < u.length:=List.length_pos_iff.2 hu
     generalize R7 p = sp at *
     subst hm
     repeat' ((first | refine B2 c1 ?_ | refine B2 c3 ?_ | refine B2 c5 ?_ | refine B2 c4 ?_ |refine A4 ?_|refine S1 ?_|refine Z1 ?_|refine Z2 ?_|(refine And.intro ?_ ?_<;>intro h<;>try first|(exfalso;omega)|exact absurd rfl h)|refine Z3 ?_|refine Z4 ?_|intro el hel hbB|intro el hel|intro ex|refine Z5 ?_|(refine A9 ?_ ?_;exact ⟨by kernel_rfl,by decide⟩)|refine A8 ?_ ?_|exact A7|refine A6 ?_ ?_|exact A5|(refine A0 ?_ ?_ ?_;kernel_rfl;kernel_rfl)) <;> (try (conv=>whnf)))
     all_goals first
      | (exfalso;omega)
      | exact F9 (rs:=[.cell 2 Y7, .tmp 3, .tmp 4, .tmp 5]) (vs:=[_,_,_,_]) rfl ⟨H1 rfl rfl rfl Q8,⟨_,rfl, .nil 1⟩,⟨_,rfl, .refl _⟩,⟨_,rfl, .refl _⟩,trivial⟩ rfl
      | contradiction
   ·rw [if_pos hm] at i8
    simp only [Prod.mk.injEq] at i8
    obtain ⟨rfl,rfl,rfl⟩:=i8
    obtain rfl:=hE1 (by decide)
    clear hE1 hE2 hE3
    generalize R7 p = sp at *
    repeat' ((first | refine B2 c1 ?_ | refine B2 c3 ?_ | refine B2 c5 ?_ | refine B2 c4 ?_ |refine A4 ?_|refine S1 ?_|refine Z1 ?_|refine Z2 ?_|(refine And.intro ?_ ?_<;>intro h<;>try first|(exfalso;omega)|exact absurd rfl h)|refine Z3 ?_|refine Z4 ?_|intro el hel hbB|intro el hel|intro ex|refine Z5 ?_|(refine A9 ?_ ?_;exact ⟨by kernel_rfl,by decide⟩)|refine A8 ?_ ?_|exact A7|refine A6 ?_ ?_|exact A5|(refine A0 ?_ ?_ ?_;kernel_rfl;kernel_rfl)) <;> (try (conv=>whnf)))
    all_goals first
     | (exfalso;omega)
     | exact F9 (rs:=[.cell 2 Y7, .tmp 3, .tmp 4, .tmp 5]) (vs:=[_,_,_,_]) rfl ⟨H1 rfl rfl rfl Q8,⟨_,rfl, .nil 1⟩,⟨_,rfl, .refl _⟩,⟨_,rfl, .refl _⟩,trivial⟩ rfl
     | contradiction
  ·obtain rfl:ok = false:=Bool.eq_false_iff.2 hok
   rw [if_pos hok] at i8
   simp only [Prod.mk.injEq] at i8
   obtain ⟨rfl,rfl,rfl⟩:=i8
   obtain rfl:=hE1 (by decide)
   clear hE1 hE2 hE3 c4
   repeat' ((first | refine B2 c1 ?_ | refine B2 c3 ?_ | refine B2 c5 ?_ | refine B2 c4 ?_ |refine A4 ?_|refine S1 ?_|refine Z1 ?_|refine Z2 ?_|(refine And.intro ?_ ?_<;>intro h<;>try first|(exfalso;omega)|exact absurd rfl h)|refine Z3 ?_|refine Z4 ?_|intro el hel hbB|intro el hel|intro ex|refine Z5 ?_|(refine A9 ?_ ?_;exact ⟨by kernel_rfl,by decide⟩)|refine A8 ?_ ?_|exact A7|refine A6 ?_ ?_|exact A5|(refine A0 ?_ ?_ ?_;kernel_rfl;kernel_rfl)) <;> (try (conv=>whnf)))
   all_goals first
    | (exfalso;omega)
    | exact F9 (rs:=[.cell 2 Y7, .tmp 3, .tmp 4, .tmp 5]) (vs:=[_,_,_,_]) rfl ⟨H1 rfl rfl rfl Q8,⟨_,rfl, .nil 1⟩,⟨_,rfl, .refl _⟩,⟨_,rfl, .refl _⟩,trivial⟩ rfl
    | contradiction
 rw [if_neg hks] at i8
 rw [Bool.eq_false_iff.2 hks] at c3
 clear c4 hks
 have c2:B4 Tryz.prog 38 [.str (List.drop (p.length:Int).toNat (List.take ((p.length:Int) + (l.length:Int)).toNat t0)), .str [32]] (.sl 1 ((I0 [32] l).map C1)):=by
  rw [e10];exact c2
 generalize I0 [32] l = w at *
 obtain ⟨ls,cs,rs⟩:=x
 dsimp only at *
 have i5:Y6 ⟨ls,cs,rs,0⟩ ≤ n:=i5
 cases hy:R3 (ls,cs,rs) w with
 | none =>
   rw [hy] at i8
   simp only [Prod.mk.injEq] at i8
   obtain ⟨rfl,rfl,rfl⟩:=i8
   obtain rfl:=hE1 (by decide)
   clear hE1 hE2 hE3
   have hq:=Uj (List.drop (p.length:Int).toNat (List.take ((p.length:Int) + (l.length:Int)).toNat t0)) w c2 ls cs rs ⟨⟨by omega,fun l hl=>by have:=s4 l hl;omega⟩,by omega,by omega⟩ ⟨hwp,hwn⟩ hwl hy
   clear c2 e10
   refine O6 (VU h0) ?_
   dsimp only [qS]
   repeat' ((first | refine B2 c1 ?_ | refine B2 c3 ?_ |refine A4 ?_|refine S1 ?_|refine Z1 ?_|refine Z2 ?_|(refine And.intro ?_ ?_<;>intro h<;>try first|(exfalso;omega)|exact absurd rfl h)|refine Z3 ?_|refine Z4 ?_|intro el hel hbB|intro el hel|intro ex|refine Z5 ?_|(refine A9 ?_ ?_;exact ⟨by kernel_rfl,by decide⟩)|refine A8 ?_ ?_|exact A7|refine A6 ?_ ?_|exact A5|(refine A0 ?_ ?_ ?_;kernel_rfl;kernel_rfl) | refine nc [4] [0] hq rfl rfl rfl ⟨rfl,trivial⟩ ?_) <;> (try (conv=>whnf)))
   all_goals first
    | (exfalso;omega)
    | exact F9 (rs:=[.cell 2 Y7, .tmp 3, .tmp 4, .tmp 5]) (vs:=[_,_,_,_]) rfl ⟨H1 rfl rfl rfl Q8,⟨_,rfl, .nil 1⟩,⟨_,rfl, .refl _⟩,⟨_,rfl, .refl _⟩,trivial⟩ rfl
    | contradiction
 | some y =>
   rw [hy] at i8
   dsimp only at i8
   clear hE1 hE2 hE3
   have hfm:=Pp hy
   have hsz:OK y ≤ Y6 ⟨ls,cs,rs,0⟩ + 1:=Pq hy
   have hA1:u.length < f:=by omega
   have hA2:n + 1 + u.length ≤ 20001:=by omega
   have hA3:OK y ≤ n + 1:=by omega
   have hA4:(p.length:Int) + ((l.length:Int) + 1) = (((p ++ l ++ [10]).length:Nat):Int):=by simp only [List.length_append,List.length_singleton];omega
   have hA5:(n:Int) + 1 = ((n + 1:Nat):Int):=by omega
   have hA6:u.length < t.length:=by omega
   by_cases hL:EG w
   ·obtain ⟨f1,f2,f3,f4⟩:=hfm.1 hL
    dsimp only at f1 f2
    obtain rfl:g = 0:=by
     rcases Nat.lt_or_ge g 1 with h | h
     ·omega
     ·exfalso
      by_cases h2:g = 1
      ·exact (i7 h2).1 f1
      ·exact i9 (by omega) f2
    subst f1 f2
    obtain ⟨ls2,cs2,rs2⟩:=y
    dsimp only at f3 f4
    subst f3 f4
    have hq:=Wu (List.drop (p.length:Int).toNat (List.take ((p.length:Int) + (l.length:Int)).toNat t0)) w c2 ls _ ⟨by omega,fun l hl=>by have:=s4 l hl;omega⟩ hwl hL hy
    clear c2 e10
    dsimp only [qS]
    repeat' ((first | refine B2 c1 ?_ | refine B2 c3 ?_ |refine A4 ?_|refine S1 ?_|refine Z1 ?_|refine Z2 ?_|(refine And.intro ?_ ?_<;>intro h<;>try first|(exfalso;omega)|exact absurd rfl h)|refine Z3 ?_|refine Z4 ?_|intro el hel hbB|intro el hel|intro ex|refine Z5 ?_|(refine A9 ?_ ?_;exact ⟨by kernel_rfl,by decide⟩)|refine A8 ?_ ?_|exact A7|refine A6 ?_ ?_|exact A5|(refine A0 ?_ ?_ ?_;kernel_rfl;kernel_rfl) | refine nc [2,3,4] [0,0,0] hq rfl rfl rfl ⟨rfl,rfl,rfl,trivial⟩ ?_) <;> (try (conv=>whnf)))
    all_goals first
     | (exfalso;omega)
     | exact ⟨(0,(ls2,[],[]),n + 1,p ++ l ++ [10],u,f),⟨hp3.symm,hA1,Nat.succ_pos n,hA2,hA3,(fun _=>⟨rfl,rfl⟩),(fun h=>by cases h),(fun h=>absurd h (by dsimp only;omega)),(by dsimp only;omega),i8⟩,hA6,B0 h0 rfl ⟨rfl,rfl,rfl,congrArg (fun z=>some (AV.i z)) hA4,congrArg (fun z=>some (AV.i z)) hA5,trivial⟩ ⟨rfl,rfl,⟨_,rfl⟩,⟨_,rfl⟩,⟨_,rfl⟩,trivial⟩ rfl rfl rfl⟩
     | contradiction
   by_cases hr:B6 w 0 = N3
   ·obtain ⟨x,rfl,hq⟩:=Ww (List.drop (p.length:Int).toNat (List.take ((p.length:Int) + (l.length:Int)).toNat t0)) w c2 ls cs rs y ⟨⟨by omega,fun l hl=>by have:=s4 l hl;omega⟩,by omega,by omega⟩ ⟨hwp,hwn⟩ hwl hr hy
    clear c2 e10
    have hne:¬ (rs ++ [x]) = []:=by simp
    refine O6 (VU h0) ?_
    dsimp only [qS]
    repeat' ((first | refine B2 c1 ?_ | refine B2 c3 ?_ |refine A4 ?_|refine S1 ?_|refine Z1 ?_|refine Z2 ?_|(refine And.intro ?_ ?_<;>intro h<;>try first|(exfalso;omega)|exact absurd rfl h)|refine Z3 ?_|refine Z4 ?_|intro el hel hbB|intro el hel|intro ex|refine Z5 ?_|(refine A9 ?_ ?_;exact ⟨by kernel_rfl,by decide⟩)|refine A8 ?_ ?_|exact A7|refine A6 ?_ ?_|exact A5|(refine A0 ?_ ?_ ?_;kernel_rfl;kernel_rfl) | refine nc [4] [0] hq rfl rfl rfl ⟨rfl,trivial⟩ ?_) <;> (try (conv=>whnf)))
    all_goals first
     | (exfalso;omega)
     | exact ⟨(2,(ls,cs,rs ++ [x]),n + 1,p ++ l ++ [10],u,f),⟨hp3.symm,hA1,Nat.succ_pos n,hA2,hA3,(fun h=>by cases h),(fun h=>by cases h),(fun _=>hne),(by dsimp only;omega),i8⟩,hA6,B0 h0 rfl ⟨rfl,rfl,rfl,congrArg (fun z=>some (AV.i z)) hA4,congrArg (fun z=>some (AV.i z)) hA5,trivial⟩ ⟨rfl,rfl,⟨_,rfl⟩,trivial⟩ rfl rfl rfl⟩
     | contradiction
   ·have f2:=hfm.2 hL hr
    dsimp only at f2
    subst f2
    have hS:St.le E 98 (qS t0 g (ls,cs,[]) n p.length) (qS t0 1 (ls,cs,[]) n p.length):=by
     match g,i9,i10 with
     | 0,_,_=>exact Zi h0
     | 1,_,_=>exact B7
     | g + 2,i9,_=>exact absurd rfl (i9 (by omega))
    obtain ⟨c,rfl,hq⟩:=Wv (List.drop (p.length:Int).toNat (List.take ((p.length:Int) + (l.length:Int)).toNat t0)) w c2 ls cs y (by omega) ⟨hwp,hwn⟩ hwl hL hr hy
    clear c2 e10
    have hne:¬ (cs ++ [c]) = []:=by simp
    refine O6 hS ?_
    clear hS
    dsimp only [qS]
    repeat' ((first | refine B2 c1 ?_ | refine B2 c3 ?_ |refine A4 ?_|refine S1 ?_|refine Z1 ?_|refine Z2 ?_|(refine And.intro ?_ ?_<;>intro h<;>try first|(exfalso;omega)|exact absurd rfl h)|refine Z3 ?_|refine Z4 ?_|intro el hel hbB|intro el hel|intro ex|refine Z5 ?_|(refine A9 ?_ ?_;exact ⟨by kernel_rfl,by decide⟩)|refine A8 ?_ ?_|exact A7|refine A6 ?_ ?_|exact A5|(refine A0 ?_ ?_ ?_;kernel_rfl;kernel_rfl) | refine nc [2,3,4] [0,0,0] hq rfl rfl rfl ⟨rfl,rfl,rfl,trivial⟩ ?_) <;> (try (conv=>whnf)))
    all_goals first
     | (exfalso;omega)
     | exact ⟨(1,(ls,cs ++ [c],[]),n + 1,p ++ l ++ [10],u,f),⟨hp3.symm,hA1,Nat.succ_pos n,hA2,hA3,(fun h=>by cases h),(fun _=>⟨hne,rfl⟩),(fun h=>absurd h (by dsimp only;omega)),(by dsimp only;omega),i8⟩,hA6,B0 h0 rfl ⟨rfl,rfl,rfl,congrArg (fun z=>some (AV.i z)) hA4,congrArg (fun z=>some (AV.i z)) hA5,trivial⟩ ⟨rfl,rfl,⟨_,rfl⟩,⟨_,rfl⟩,⟨_,rfl⟩,trivial⟩ rfl rfl rfl⟩
     | contradiction
end Go.Proofs.YtiphlhoclaogjabGreatDoor
