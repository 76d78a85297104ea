/- Chapter 3: the reference's reader: measures and rows. -/
import Derived.Test.YtiphlhoclaogjabGreatDoorQKd1
import Derived.Test.YtiphlhoclaogjabGreatDoorQAvI
import Derived.Test.YtiphlhoclaogjabGreatDoorQF7
import Derived.Test.YtiphlhoclaogjabGreatDoorQRp2
import Derived.Test.YtiphlhoclaogjabGreatDoorQB12
set_option linter.unusedVariables false
set_option linter.unnecessarySimpa false
set_option linter.unusedSimpArgs false
namespace Go.Proofs.YtiphlhoclaogjabGreatDoor
open Go Go.Av
attribute [local irreducible] D6 B8 D8 D7 DQ E0 E1 St.le B4 B9
set_option maxRecDepth 100000
theorem Wn:NL (.agg [.str [], .i 0, .i 0, .i 0, .i 0, .v (.slice none 0 0), .b false]) (M4 ⟨[],0,0,0,0,[],false⟩):=Lq ⟨.refl _, .refl _, .refl _, .refl _, .refl _, .nil 1, .refl _,trivial⟩
set_option maxHeartbeats 8000000 in
theorem Wo (w:List (List UInt8)) (hm:w.length < 6 ∨ ¬ B6 w 4 = G8 ∧ ¬ B6 w 4 = H2):B4 Tryz.prog 76 [.sl 1 (w.map C1)] (.tup [M4 ⟨[],0,0,0,0,[],false⟩, .b false]):=by
 have g4:4 < w.length → w[4]? = some (B6 w 4):=fun h=>C8 h
 generalize B6 w 4 = w4 at *
 refine F3 Tryz.func76 80 fun hrd E h0=>?_
 clear hrd
 repeat' ((first | (refine A3 (x:=w4) (g4 (by omega)) (by omega) ?_) |refine A4 ?_|refine S1 ?_|refine Z1 ?_|refine Z2 ?_|(refine And.intro ?_ ?_<;>intro h<;>try first|(exfalso;omega)|exact absurd rfl h)|refine Z3 ?_|refine Z4 ?_|intro el hel hbB|intro el hel|intro ex|refine Z5 ?_|(refine A9 ?_ ?_;exact ⟨by kernel_rfl,by decide⟩)|refine A8 ?_ ?_|exact A7|refine A6 ?_ ?_|exact A5|(refine A0 ?_ ?_ ?_;kernel_rfl;kernel_rfl)) <;> (try (conv=>whnf)))
 all_goals first
  | (exfalso;omega)
  | (exfalso;rcases hm with h | ⟨g1,g2⟩;(omega);first | exact (show ¬ ¬ w4 = G8 by assumption) g1 | exact (show ¬ ¬ w4 = H2 by assumption) g2)
  | exact F9 (rs:=[.cell 2 J2, .tmp 3]) (vs:=[_,_]) rfl ⟨H1 rfl rfl rfl Wn,⟨_,rfl, .refl _⟩,trivial⟩ rfl
def Dx {α:Type} (f:α → Int × Bool):List α → List Int
 | []=>[]
 | x :: r=>if (f x).2 = true then (f x).1 :: Dx f r else []
theorem Dy {α:Type} {f:α → Int × Bool}:∀ {W:List α} {l:List Int},G4 f W = some l → Dx f W = l
 | [],l,h=>by cases h;rfl
 | x :: r,l,h=>by
   rw [G4] at h
   rw [Dx]
   split at h
   ·rename_i hx
    rw [if_pos hx]
    cases hr:G4 f r with
    | none=>rw [hr] at h;cases h
    | some m=>rw [hr] at h;cases h;rw [Dy hr]
   ·cases h
theorem FF {α:Type} {f:α → Int × Bool}:∀ {W:List α} {k:Nat} {l:List Int} {x:α},G4 f (W.take k) = some l → W[k]? = some x → (f x).2 = false → Dx f W = l ∧ G4 f W = none
 | [],k,l,x,_,hx,_=>by simp at hx
 | y :: r,0,l,x,h,hx,ho=>by
   simp only [List.getElem?_cons_zero,Option.some.injEq] at hx
   subst hx
   simp only [List.take_zero,G4,Option.some.injEq] at h
   subst h
   rw [Dx,G4,if_neg (by rw [ho];decide),if_neg (by rw [ho];decide)]
   exact ⟨rfl,rfl⟩
 | y :: r,k + 1,l,x,h,hx,ho=>by
   rw [List.take_succ_cons,G4] at h
   rw [Dx,G4]
   split at h
   ·rename_i hy
    rw [if_pos hy,if_pos hy]
    cases hr:G4 f (r.take k) with
    | none=>rw [hr] at h;cases h
    | some m =>
      rw [hr] at h
      cases h
      obtain ⟨g1,g2⟩:=FF hr (by simpa using hx) ho
      rw [g1,g2]
      exact ⟨rfl,rfl⟩
   ·cases h
abbrev z1:Nat:=3
set_option maxHeartbeats 16000000 in
theorem SD (w:List (List UInt8)) (h6:6 ≤ w.length) (hL:w.length ≤ 20001) (hwl:∀ z ∈ w,z.length ≤ 20000) (hm:B6 w 4 = G8):B4 Tryz.prog 76 [.sl 1 (w.map C1)] (.tup [M4 ⟨B6 w 1,3,0,(D1 (B6 w 2)).1,(D1 (B6 w 3)).1,Dx D1 (w.drop 5),false⟩, .b ((G4 D1 (w.drop 5)).isSome && ((D1 (B6 w 2)).2 && (D1 (B6 w 3)).2))]):=by
 have g1:=C8 (ws:=w) (i:=1) (by omega)
 have g2:=C8 (ws:=w) (i:=2) (by omega)
 have g3:=C8 (ws:=w) (i:=3) (by omega)
 have g4:=C8 (ws:=w) (i:=4) (by omega)
 have q2:=L3 (B6 w 2) (by have:=hwl _ (List.mem_of_getElem? g2);omega)
 have q3:=L3 (B6 w 3) (by have:=hwl _ (List.mem_of_getElem? g3);omega)
 have hnum:∀ z ∈ w,_:=fun z h=>L3 z (by have:=hwl z h;omega)
 rw [hm] at g4
 clear hm
 generalize B6 w 1 = nm at *
 generalize B6 w 2 = z2 at *
 generalize B6 w 3 = z3 at *
 generalize D1 z2 = n2 at *
 generalize D1 z3 = n3 at *
 obtain ⟨lo,o2⟩:=n2
 obtain ⟨hi,o3⟩:=n3
 dsimp only [M4,C0] at *
 refine F3 Tryz.func76 80 fun hrd E h0=>?_
 clear hrd
 repeat' ((first | (refine A3 (x:=nm) g1 (by omega) ?_) | (refine A3 (x:=z2) g2 (by omega) ?_) | (refine A3 (x:=z3) g3 (by omega) ?_) | (refine A3 (x:=G8) g4 (by omega) ?_) | refine B2 q2 ?_ | refine B2 q3 ?_ | (refine G6 (id:=5) ⟨[(0, .sl 1 (w.map C1)),(2, .ref 0 0),(5, .b o2),(7, .b o3),(8, .ref 1 0)],2,[(0,some (.box [.str [], .i 0, .i 0, .i 0, .i 0, .v (.slice none 0 0), .b false])),(1,some (.box [.str nm, .i 3, .i 0, .i lo, .i hi, .v (.slice none 0 0), .b false]))]⟩ ?_ ?_) |refine A4 ?_|refine S1 ?_|refine Z1 ?_|refine Z2 ?_|(refine And.intro ?_ ?_<;>intro h<;>try first|(exfalso;omega)|exact absurd rfl h)|refine Z3 ?_|refine Z4 ?_|intro el hel hbB|intro el hel|intro ex|refine Z5 ?_|(refine A9 ?_ ?_;exact ⟨by kernel_rfl,by decide⟩)|refine A8 ?_ ?_|exact A7|refine A6 ?_ ?_|exact A5|(refine A0 ?_ ?_ ?_;kernel_rfl;kernel_rfl)) <;> (try (conv=>whnf)))
 all_goals first
  | (exfalso;omega)
  | exact B0 h0 rfl ⟨rfl,rfl,rfl,rfl,rfl,trivial⟩ ⟨rfl,rfl,trivial⟩ rfl rfl rfl
  | contradiction
  | skip
 refine C2 (ι:=List Int) (fun l=>⟨[(0, .sl 1 (w.map C1)),(2, .ref 0 0),(5, .b o2),(7, .b o3),(8, .ref 1 0),(9, .i ((l.length:Int) + 5))],3,[(0,some (.box [.str [], .i 0, .i 0, .i 0, .i 0, .v (.slice none 0 0), .b false])),(1,some (.box [.str nm, .i 3, .i 0, .i lo, .i hi, .row 2 0 l.length, .b false])),(2,some (.row z1 1 0 (l.map wA)))]⟩) (fun l=>l.length + 5 ≤ w.length ∧ G4 D1 ((w.drop 5).take l.length) = some l) (fun l=>w.length - l.length) [] ⟨by dsimp only [List.length_nil];omega,rfl⟩
  (C3 (Z7 1 5 (e:=z1) (sz:=1) rfl rfl) (B0 h0 rfl ⟨rfl,rfl,rfl,rfl,rfl,rfl,trivial⟩ ⟨rfl,rfl,⟨0,rfl⟩,trivial⟩ rfl rfl rfl)) (fun l hI=>?_)
 obtain ⟨hk,hI⟩:=hI
 by_cases hlt:l.length + 5 < w.length
 ·obtain ⟨z,hz⟩:∃ z,w[l.length + 5]? = some z:=⟨_,List.getElem?_eq_getElem hlt⟩
  have hz2:w[((l.length:Int) + 5).toNat]? = some z:=by rw [show ((l.length:Int) + 5).toNat = l.length + 5 by omega];exact hz
  have hzd:(w.drop 5)[l.length]? = some z:=by rw [List.getElem?_drop,Nat.add_comm];exact hz
  have hq:=hnum z (List.mem_of_getElem? hz)
  have hst:=fun ho=>CO hI hzd ho
  have hno:=fun ho=>FF hI hzd ho
  generalize D1 z = q at *
  obtain ⟨n,ok⟩:=q
  dsimp only at hq hst hno
  cases ok with
  | true =>
    have hst:=hst rfl
    clear hno hnum
    have e1:l.length + 1 = (l ++ [n]).length:=by simp
    have e2:((l.length:Int) + 5) + 1 = (((l ++ [n]).length:Nat):Int) + 5:=by simp;omega
    rw [e1] at hst
    repeat' ((first | (refine A3 (x:=z) hz2 (by omega) ?_) | refine B2 hq ?_ |refine A4 ?_|refine S1 ?_|refine Z1 ?_|refine Z2 ?_|(refine And.intro ?_ ?_<;>intro h<;>try first|(exfalso;omega)|exact absurd rfl h)|refine Z3 ?_|refine Z4 ?_|intro el hel hbB|intro el hel|intro ex|refine Z5 ?_|(refine A9 ?_ ?_;exact ⟨by kernel_rfl,by decide⟩)|refine A8 ?_ ?_|exact A7|refine A6 ?_ ?_|exact A5|(refine A0 ?_ ?_ ?_;kernel_rfl;kernel_rfl)) <;> (try (conv=>whnf)))
    all_goals first
     | (exfalso;omega)
     | exact ⟨l ++ [n],⟨by omega,hst⟩,by omega,B0 h0 rfl ⟨rfl,rfl,rfl,rfl,rfl,congrArg (fun z=>some (AV.i z)) e2,trivial⟩ ⟨rfl,congrArg (fun z=>C6.box [.str nm, .i 3, .i 0, .i lo, .i hi, .row 2 0 z, .b false]) e1.symm,⟨_,congrArg (C6.row z1 1 _) (by rw [List.map_append];rfl)⟩,trivial⟩ rfl rfl rfl⟩
  | false =>
    obtain ⟨k1,k2⟩:=hno rfl
    rw [k1,k2]
    clear hst hnum
    repeat' ((first | (refine A3 (x:=z) hz2 (by omega) ?_) | refine B2 hq ?_ |refine A4 ?_|refine S1 ?_|refine Z1 ?_|refine Z2 ?_|(refine And.intro ?_ ?_<;>intro h<;>try first|(exfalso;omega)|exact absurd rfl h)|refine Z3 ?_|refine Z4 ?_|intro el hel hbB|intro el hel|intro ex|refine Z5 ?_|(refine A9 ?_ ?_;exact ⟨by kernel_rfl,by decide⟩)|refine A8 ?_ ?_|exact A7|refine A6 ?_ ?_|exact A5|(refine A0 ?_ ?_ ?_;kernel_rfl;kernel_rfl)) <;> (try (conv=>whnf)))
    all_goals first
     | (exfalso;omega)
     | exact F9 (rs:=[.cell 2 J2, .tmp 3]) (vs:=[_,_]) rfl ⟨H1 rfl rfl rfl (.refl _),⟨_,rfl, .refl _⟩,trivial⟩ rfl
 ·have hte:(w.drop 5).take l.length = w.drop 5:=List.take_of_length_le (by rw [List.length_drop];omega)
  rw [hte] at hI
  rw [Dy hI,hI]
  clear hnum
  cases o2 <;>
  repeat' ((first|refine A4 ?_|refine S1 ?_|refine Z1 ?_|refine Z2 ?_|(refine And.intro ?_ ?_<;>intro h<;>try first|(exfalso;omega)|exact absurd rfl h)|refine Z3 ?_|refine Z4 ?_|intro el hel hbB|intro el hel|intro ex|refine Z5 ?_|(refine A9 ?_ ?_;exact ⟨by kernel_rfl,by decide⟩)|refine A8 ?_ ?_|exact A7|refine A6 ?_ ?_|exact A5|(refine A0 ?_ ?_ ?_;kernel_rfl;kernel_rfl)) <;> (try (conv=>whnf)))
  all_goals first
   | (exfalso;omega)
   | exact F9 (rs:=[.cell 2 J2, .tmp 3]) (vs:=[_,_]) rfl ⟨H1 rfl rfl rfl (.refl _),⟨_,rfl, .refl _⟩,trivial⟩ rfl
set_option maxHeartbeats 16000000 in
theorem Uf (w:List (List UInt8)) (h6:6 ≤ w.length) (hL:w.length ≤ 20001) (hwl:∀ z ∈ w,z.length ≤ 20000) (hm:B6 w 4 = H2):B4 Tryz.prog 76 [.sl 1 (w.map C1)] (.tup [M4 ⟨B6 w 1,3,0,(D1 (B6 w 2)).1,(D1 (B6 w 3)).1,Dx D1 (w.drop 5),true⟩, .b ((G4 D1 (w.drop 5)).isSome && ((D1 (B6 w 2)).2 && (D1 (B6 w 3)).2))]):=by
 have g1:=C8 (ws:=w) (i:=1) (by omega)
 have g2:=C8 (ws:=w) (i:=2) (by omega)
 have g3:=C8 (ws:=w) (i:=3) (by omega)
 have g4:=C8 (ws:=w) (i:=4) (by omega)
 have q2:=L3 (B6 w 2) (by have:=hwl _ (List.mem_of_getElem? g2);omega)
 have q3:=L3 (B6 w 3) (by have:=hwl _ (List.mem_of_getElem? g3);omega)
 have hnum:∀ z ∈ w,_:=fun z h=>L3 z (by have:=hwl z h;omega)
 rw [hm] at g4
 clear hm
 generalize B6 w 1 = nm at *
 generalize B6 w 2 = z2 at *
 generalize B6 w 3 = z3 at *
 generalize D1 z2 = n2 at *
 generalize D1 z3 = n3 at *
 obtain ⟨lo,o2⟩:=n2
 obtain ⟨hi,o3⟩:=n3
 dsimp only [M4,C0] at *
 refine F3 Tryz.func76 80 fun hrd E h0=>?_
 clear hrd
 repeat' ((first | (refine A3 (x:=nm) g1 (by omega) ?_) | (refine A3 (x:=z2) g2 (by omega) ?_) | (refine A3 (x:=z3) g3 (by omega) ?_) | (refine A3 (x:=H2) g4 (by omega) ?_) | refine B2 q2 ?_ | refine B2 q3 ?_ | (refine G6 (id:=5) ⟨[(0, .sl 1 (w.map C1)),(2, .ref 0 0),(5, .b o2),(7, .b o3),(8, .ref 1 0)],2,[(0,some (.box [.str [], .i 0, .i 0, .i 0, .i 0, .v (.slice none 0 0), .b false])),(1,some (.box [.str nm, .i 3, .i 0, .i lo, .i hi, .v (.slice none 0 0), .b true]))]⟩ ?_ ?_) |refine A4 ?_|refine S1 ?_|refine Z1 ?_|refine Z2 ?_|(refine And.intro ?_ ?_<;>intro h<;>try first|(exfalso;omega)|exact absurd rfl h)|refine Z3 ?_|refine Z4 ?_|intro el hel hbB|intro el hel|intro ex|refine Z5 ?_|(refine A9 ?_ ?_;exact ⟨by kernel_rfl,by decide⟩)|refine A8 ?_ ?_|exact A7|refine A6 ?_ ?_|exact A5|(refine A0 ?_ ?_ ?_;kernel_rfl;kernel_rfl)) <;> (try (conv=>whnf)))
 all_goals first
  | (exfalso;omega)
  | exact B0 h0 rfl ⟨rfl,rfl,rfl,rfl,rfl,trivial⟩ ⟨rfl,rfl,trivial⟩ rfl rfl rfl
  | contradiction
  | skip
 refine C2 (ι:=List Int) (fun l=>⟨[(0, .sl 1 (w.map C1)),(2, .ref 0 0),(5, .b o2),(7, .b o3),(8, .ref 1 0),(9, .i ((l.length:Int) + 5))],3,[(0,some (.box [.str [], .i 0, .i 0, .i 0, .i 0, .v (.slice none 0 0), .b false])),(1,some (.box [.str nm, .i 3, .i 0, .i lo, .i hi, .row 2 0 l.length, .b true])),(2,some (.row z1 1 0 (l.map wA)))]⟩) (fun l=>l.length + 5 ≤ w.length ∧ G4 D1 ((w.drop 5).take l.length) = some l) (fun l=>w.length - l.length) [] ⟨by dsimp only [List.length_nil];omega,rfl⟩
  (C3 (Z7 1 5 (e:=z1) (sz:=1) rfl rfl) (B0 h0 rfl ⟨rfl,rfl,rfl,rfl,rfl,rfl,trivial⟩ ⟨rfl,rfl,⟨0,rfl⟩,trivial⟩ rfl rfl rfl)) (fun l hI=>?_)
 obtain ⟨hk,hI⟩:=hI
 by_cases hlt:l.length + 5 < w.length
 ·obtain ⟨z,hz⟩:∃ z,w[l.length + 5]? = some z:=⟨_,List.getElem?_eq_getElem hlt⟩
  have hz2:w[((l.length:Int) + 5).toNat]? = some z:=by rw [show ((l.length:Int) + 5).toNat = l.length + 5 by omega];exact hz
  have hzd:(w.drop 5)[l.length]? = some z:=by rw [List.getElem?_drop,Nat.add_comm];exact hz
  have hq:=hnum z (List.mem_of_getElem? hz)
  have hst:=fun ho=>CO hI hzd ho
  have hno:=fun ho=>FF hI hzd ho
  generalize D1 z = q at *
  obtain ⟨n,ok⟩:=q
  dsimp only at hq hst hno
  cases ok with
  | true =>
    have hst:=hst rfl
    clear hno hnum
    have e1:l.length + 1 = (l ++ [n]).length:=by simp
    have e2:((l.length:Int) + 5) + 1 = (((l ++ [n]).length:Nat):Int) + 5:=by simp;omega
    rw [e1] at hst
    repeat' ((first | (refine A3 (x:=z) hz2 (by omega) ?_) | refine B2 hq ?_ |refine A4 ?_|refine S1 ?_|refine Z1 ?_|refine Z2 ?_|(refine And.intro ?_ ?_<;>intro h<;>try first|(exfalso;omega)|exact absurd rfl h)|refine Z3 ?_|refine Z4 ?_|intro el hel hbB|intro el hel|intro ex|refine Z5 ?_|(refine A9 ?_ ?_;exact ⟨by kernel_rfl,by decide⟩)|refine A8 ?_ ?_|exact A7|refine A6 ?_ ?_|exact A5|(refine A0 ?_ ?_ ?_;kernel_rfl;kernel_rfl)) <;> (try (conv=>whnf)))
    all_goals first
     | (exfalso;omega)
     | exact ⟨l ++ [n],⟨by omega,hst⟩,by omega,B0 h0 rfl ⟨rfl,rfl,rfl,rfl,rfl,congrArg (fun z=>some (AV.i z)) e2,trivial⟩ ⟨rfl,congrArg (fun z=>C6.box [.str nm, .i 3, .i 0, .i lo, .i hi, .row 2 0 z, .b true]) e1.symm,⟨_,congrArg (C6.row z1 1 _) (by rw [List.map_append];rfl)⟩,trivial⟩ rfl rfl rfl⟩
  | false =>
    obtain ⟨k1,k2⟩:=hno rfl
    rw [k1,k2]
    clear hst hnum
    repeat' ((first | (refine A3 (x:=z) hz2 (by omega) ?_) | refine B2 hq ?_ |refine A4 ?_|refine S1 ?_|refine Z1 ?_|refine Z2 ?_|(refine And.intro ?_ ?_<;>intro h<;>try first|(exfalso;omega)|exact absurd rfl h)|refine Z3 ?_|refine Z4 ?_|intro el hel hbB|intro el hel|intro ex|refine Z5 ?_|(refine A9 ?_ ?_;exact ⟨by kernel_rfl,by decide⟩)|refine A8 ?_ ?_|exact A7|refine A6 ?_ ?_|exact A5|(refine A0 ?_ ?_ ?_;kernel_rfl;kernel_rfl)) <;> (try (conv=>whnf)))
    all_goals first
     | (exfalso;omega)
     | exact F9 (rs:=[.cell 2 J2, .tmp 3]) (vs:=[_,_]) rfl ⟨H1 rfl rfl rfl (.refl _),⟨_,rfl, .refl _⟩,trivial⟩ rfl
 ·have hte:(w.drop 5).take l.length = w.drop 5:=List.take_of_length_le (by rw [List.length_drop];omega)
  rw [hte] at hI
  rw [Dy hI,hI]
  clear hnum
  cases o2 <;>
  repeat' ((first|refine A4 ?_|refine S1 ?_|refine Z1 ?_|refine Z2 ?_|(refine And.intro ?_ ?_<;>intro h<;>try first|(exfalso;omega)|exact absurd rfl h)|refine Z3 ?_|refine Z4 ?_|intro el hel hbB|intro el hel|intro ex|refine Z5 ?_|(refine A9 ?_ ?_;exact ⟨by kernel_rfl,by decide⟩)|refine A8 ?_ ?_|exact A7|refine A6 ?_ ?_|exact A5|(refine A0 ?_ ?_ ?_;kernel_rfl;kernel_rfl)) <;> (try (conv=>whnf)))
  all_goals first
   | (exfalso;omega)
   | exact F9 (rs:=[.cell 2 J2, .tmp 3]) (vs:=[_,_]) rfl ⟨H1 rfl rfl rfl (.refl _),⟨_,rfl, .refl _⟩,trivial⟩ rfl
end Go.Proofs.YtiphlhoclaogjabGreatDoor
