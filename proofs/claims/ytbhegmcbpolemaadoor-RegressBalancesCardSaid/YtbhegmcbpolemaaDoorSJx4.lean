/- What a model gives for a row, by the law's own function. -/
import Derived.Test.YtbhegmcbpolemaaDoorSJx6
import Derived.Test.YtbhegmcbpolemaaDoorSJx7
import Derived.Test.YtbhegmcbpolemaaDoorSJm4
set_option linter.unusedVariables false
set_option linter.unnecessarySimpa false
set_option linter.unusedSimpArgs false
namespace Go.Proofs.YtbhegmcbpolemaaDoor
open Go Go.Av
attribute [local irreducible] E3 B5 F2 F0 DQ F5 G8 St.le B6 D3
set_option maxRecDepth 100000
set_option maxHeartbeats 16000000 in
theorem KN (cs:List (Int × Int)) (r1 r1' t1 t1' cn fr:Int) (r:List Int) (hl:cs.length = r.length) (hn:1 ≤ r.length):B6 Tryd.prog 19 [.agg (P4 ⟨cs,(r1,r1'),(t1,t1'),cn,fr⟩),C2 r] (.tup [a8 (BX cs r).1, .b (BX cs r).2]):=by
 obtain ⟨⟨a,b⟩,hc0⟩:∃ x,cs[0]? = some x:=⟨_,List.getElem?_eq_getElem (by omega)⟩
 obtain ⟨y,hy0⟩:∃ x,r[0]? = some x:=⟨_,List.getElem?_eq_getElem (by omega)⟩
 have hc02:cs[((0:Int)).toNat]? = some (a,b):=hc0
 have hy02:r[((0:Int)).toNat]? = some y:=hy0
 have g1:cs.getD 0 (0,0) = (a,b):=by rw [List.getD_eq_getElem?_getD,hc0];rfl
 have g2:r.getD 0 0 = y:=by rw [List.getD_eq_getElem?_getD,hy0];rfl
 have c1:=Ng (a,b) (y,1)
 have hS:BX cs r = if (Am (a,b) (y,1)).1 = 0 then BW cs r (cs.length - 1) 1 (Am (a,b) (y,1)).2 else ((Am (a,b) (y,1)).2,false):=by
  unfold BX;rw [g1,g2]
 generalize Am (a,b) (y,1) = A at *
 obtain ⟨e,o1,o2⟩:=A
 dsimp only at hS
 generalize BX cs r = F at *
 obtain ⟨⟨f1,f2⟩,fb⟩:=F
 by_cases he:e = 0
 rotate_left
 ·rw [if_neg he] at hS
  cases hS
  refine E1 Tryd.func19 64 fun hrd E h0=>?_
  clear hrd
  repeat' ((first | refine A4 c1 ?_ | (refine B4 (x:=(a,b)) hc02 (by omega) ?_) | (refine B4 (x:=y) hy02 (by omega) ?_) | (refine S7 1 ?_;refine S8 (id:=1) (σ':=⟨[(1,C2 r),(2, .iptr (P4 ⟨cs,(r1,r1'),(t1,t1'),cn,fr⟩)),(4, .ref 1 0),(5, .b false)],2,[(1,some (.box [.i 0, .i 0]))]⟩) (B3 h0 rfl ⟨rfl,rfl,rfl,rfl,trivial⟩ ⟨rfl,trivial⟩ rfl rfl rfl) ?_;refine F6 (id:=1) ⟨[(1,C2 r),(2, .iptr (P4 ⟨cs,(r1,r1'),(t1,t1'),cn,fr⟩)),(4, .ref 1 0),(5, .b false),(6, .ref 2 0),(7, .i e)],3,[(1,some (.box [.i 0, .i 0])),(2,some (.box [.i o1, .i o2]))]⟩ ?_ ?_) |refine A6 ?_|refine S1 ?_|refine Z1 ?_|refine Z2 ?_|(refine And.intro ?_ ?_<;>intro h<;>try first|(exfalso;omega)|exact absurd rfl h)|refine Z3 ?_|refine Z4 ?_|intro el hel hbB|intro el hel|intro ex|refine Z5 ?_|(refine B2 ?_ ?_;exact ⟨by kernel_rfl,by decide⟩)|refine B0 ?_ ?_|exact A9|refine A8 ?_ ?_|exact A7|(refine A3 ?_ ?_ ?_;kernel_rfl;kernel_rfl)) <;> (try (conv=>whnf)))
  all_goals first
   | (exfalso;omega)
   | exact B3 h0 rfl ⟨rfl,rfl,rfl,rfl,rfl,rfl,trivial⟩ ⟨rfl,rfl,trivial⟩ rfl rfl rfl
   | exact F9 rfl rfl rfl (.refl _) rfl (.refl _) rfl
 rw [if_pos he] at hS
 subst he
 refine E1 Tryd.func19 64 fun hrd E h0=>?_
 have hlen:r.length ≤ 9223372036854775807:=by
  have:=(hrd (C2 r) (by simp)).sl
  simpa using this
 clear hrd
 repeat' ((first | refine A4 c1 ?_ | (refine B4 (x:=(a,b)) hc02 (by omega) ?_) | (refine B4 (x:=y) hy02 (by omega) ?_) | (refine S7 1 ?_;refine S8 (id:=1) (σ':=⟨[(1,C2 r),(2, .iptr (P4 ⟨cs,(r1,r1'),(t1,t1'),cn,fr⟩)),(4, .ref 1 0),(5, .b false)],2,[(1,some (.box [.i 0, .i 0]))]⟩) (B3 h0 rfl ⟨rfl,rfl,rfl,rfl,trivial⟩ ⟨rfl,trivial⟩ rfl rfl rfl) ?_;refine F6 (id:=1) ⟨[(1,C2 r),(2, .iptr (P4 ⟨cs,(r1,r1'),(t1,t1'),cn,fr⟩)),(4, .ref 1 0),(5, .b false),(6, .ref 2 0),(7, .i 0)],3,[(1,some (.box [.i 0, .i 0])),(2,some (.box [.i o1, .i o2]))]⟩ ?_ ?_) |refine A6 ?_|refine S1 ?_|refine Z1 ?_|refine Z2 ?_|(refine And.intro ?_ ?_<;>intro h<;>try first|(exfalso;omega)|exact absurd rfl h)|refine Z3 ?_|refine Z4 ?_|intro el hel hbB|intro el hel|intro ex|refine Z5 ?_|(refine B2 ?_ ?_;exact ⟨by kernel_rfl,by decide⟩)|refine B0 ?_ ?_|exact A9|refine A8 ?_ ?_|exact A7|(refine A3 ?_ ?_ ?_;kernel_rfl;kernel_rfl)) <;> (try (conv=>whnf)))
 all_goals first
  | (exfalso;omega)
  | exact B3 h0 rfl ⟨rfl,rfl,rfl,rfl,rfl,rfl,trivial⟩ ⟨rfl,rfl,trivial⟩ rfl rfl rfl
  | skip
 refine F4 (ι:=Nat × (Int × Int)) (fun s=>⟨[(1,C2 r),(2, .iptr (P4 ⟨cs,(r1,r1'),(t1,t1'),cn,fr⟩)),(4, .ref 1 0),(5, .b false),(6, .ref 2 0),(8, .i s.1)],3,[(1,some (.box [.i 0, .i 0])),(2,some (.box [.i s.2.1, .i s.2.2]))]⟩) (fun s=>1 ≤ s.1 ∧ s.1 ≤ cs.length ∧ BW cs r (cs.length - s.1) s.1 s.2 = ((f1,f2),fb)) (fun s=>cs.length - s.1) (1,(o1,o2)) ⟨Nat.le_refl _,by dsimp only;omega,hS.symm⟩
  (B3 h0 rfl ⟨rfl,rfl,rfl,rfl,rfl,rfl,trivial⟩ ⟨rfl,rfl,trivial⟩ rfl rfl rfl) (fun s hI=>?_)
 obtain ⟨k,o1,o2⟩:=s
 obtain ⟨i1,i2,i3⟩:=hI
 dsimp only at i1 i2 i3 ⊢
 clear hS c1
 have hcl:(cs.map M1).length = cs.length:=List.length_map ..
 by_cases hk:k < cs.length
 ·obtain ⟨⟨a,b⟩,hc⟩:∃ x,cs[k]? = some x:=⟨_,List.getElem?_eq_getElem hk⟩
  obtain ⟨y,hy⟩:∃ x,r[k]? = some x:=⟨_,List.getElem?_eq_getElem (by omega)⟩
  have hc2:cs[((k:Nat):Int).toNat]? = some (a,b):=hc
  have hy2:r[((k:Nat):Int).toNat]? = some y:=hy
  have g1:cs.getD k (0,0) = (a,b):=by rw [List.getD_eq_getElem?_getD,hc];rfl
  have g2:r.getD k 0 = y:=by rw [List.getD_eq_getElem?_getD,hy];rfl
  obtain ⟨j,hj⟩:∃ j,cs.length - k = j + 1:=⟨cs.length - k - 1,by omega⟩
  have hj2:cs.length - (k + 1) = j:=by omega
  rw [hj,BW,g1,g2] at i3
  have c1:=Hj (a,b) (y,1)
  generalize AL (a,b) (y,1) = X at *
  obtain ⟨e1,x1,x2⟩:=X
  dsimp only at i3
  have c2:=Hi (o1,o2) (x1,x2)
  generalize Al (o1,o2) (x1,x2) = Y at *
  obtain ⟨e2,y1,y2⟩:=Y
  dsimp only at i3
  by_cases he:e1 = 0 ∧ e2 = 0
  ·rw [if_pos he] at i3
   obtain ⟨rfl,rfl⟩:=he
   repeat' ((first | refine A4 c1 ?_ | refine A4 c2 ?_ | (refine B4 (x:=(a,b)) hc2 (by omega) ?_) | (refine B4 (x:=y) hy2 (by omega) ?_) | (refine F6 (id:=7) ⟨[(1,C2 r),(2, .iptr (P4 ⟨cs,(r1,r1'),(t1,t1'),cn,fr⟩)),(4, .ref 1 0),(5, .b false),(6, .ref 2 0),(8, .i k),(9, .ref 3 0),(10, .i 0)],4,[(1,some (.box [.i 0, .i 0])),(2,some (.box [.i o1, .i o2])),(3,some (.box [.i x1, .i x2]))]⟩ ?_ ?_) |refine A6 ?_|refine S1 ?_|refine Z1 ?_|refine Z2 ?_|(refine And.intro ?_ ?_<;>intro h<;>try first|(exfalso;omega)|exact absurd rfl h)|refine Z3 ?_|refine Z4 ?_|intro el hel hbB|intro el hel|intro ex|refine Z5 ?_|(refine B2 ?_ ?_;exact ⟨by kernel_rfl,by decide⟩)|refine B0 ?_ ?_|exact A9|refine A8 ?_ ?_|exact A7|(refine A3 ?_ ?_ ?_;kernel_rfl;kernel_rfl)) <;> (try (conv=>whnf)))
   all_goals first
    | (exfalso;omega)
    | (exfalso;simp_all;done)
    | exact B3 h0 rfl ⟨rfl,rfl,rfl,rfl,rfl,rfl,rfl,rfl,trivial⟩ ⟨rfl,rfl,rfl,trivial⟩ rfl rfl rfl
    | exact ⟨(k + 1,y1,y2),⟨by dsimp only;omega,by dsimp only;omega,by dsimp only;rw [hj2];exact i3⟩,by dsimp only;omega,B3 h0 rfl ⟨rfl,rfl,rfl,rfl,rfl,rfl,trivial⟩ ⟨rfl,rfl,trivial⟩ rfl rfl rfl⟩
  ·rw [if_neg he] at i3
   cases i3
   repeat' ((first | refine A4 c1 ?_ | refine A4 c2 ?_ | (refine B4 (x:=(a,b)) hc2 (by omega) ?_) | (refine B4 (x:=y) hy2 (by omega) ?_) | (refine F6 (id:=7) ⟨[(1,C2 r),(2, .iptr (P4 ⟨cs,(r1,r1'),(t1,t1'),cn,fr⟩)),(4, .ref 1 0),(5, .b false),(6, .ref 2 0),(8, .i k),(9, .ref 3 0),(10, .i e1)],4,[(1,some (.box [.i 0, .i 0])),(2,some (.box [.i f1, .i f2])),(3,some (.box [.i x1, .i x2]))]⟩ ?_ ?_) |refine A6 ?_|refine S1 ?_|refine Z1 ?_|refine Z2 ?_|(refine And.intro ?_ ?_<;>intro h<;>try first|(exfalso;omega)|exact absurd rfl h)|refine Z3 ?_|refine Z4 ?_|intro el hel hbB|intro el hel|intro ex|refine Z5 ?_|(refine B2 ?_ ?_;exact ⟨by kernel_rfl,by decide⟩)|refine B0 ?_ ?_|exact A9|refine A8 ?_ ?_|exact A7|(refine A3 ?_ ?_ ?_;kernel_rfl;kernel_rfl)) <;> (try (conv=>whnf)))
   all_goals first
    | (exfalso;omega)
    | (exfalso;simp_all;done)
    | exact B3 h0 rfl ⟨rfl,rfl,rfl,rfl,rfl,rfl,rfl,rfl,trivial⟩ ⟨rfl,rfl,rfl,trivial⟩ rfl rfl rfl
    | exact F9 rfl rfl rfl (.refl _) rfl (.refl _) rfl
 ·have hz:cs.length - k = 0:=by omega
  rw [hz,BW] at i3
  cases i3
  repeat' ((first|refine A6 ?_|refine S1 ?_|refine Z1 ?_|refine Z2 ?_|(refine And.intro ?_ ?_<;>intro h<;>try first|(exfalso;omega)|exact absurd rfl h)|refine Z3 ?_|refine Z4 ?_|intro el hel hbB|intro el hel|intro ex|refine Z5 ?_|(refine B2 ?_ ?_;exact ⟨by kernel_rfl,by decide⟩)|refine B0 ?_ ?_|exact A9|refine A8 ?_ ?_|exact A7|(refine A3 ?_ ?_ ?_;kernel_rfl;kernel_rfl)) <;> (try (conv=>whnf)))
  all_goals first
   | (exfalso;omega)
   | exact F9 rfl rfl rfl (.refl _) rfl (.refl _) rfl
   | (exfalso;dsimp only at h;omega)
end Go.Proofs.YtbhegmcbpolemaaDoor
