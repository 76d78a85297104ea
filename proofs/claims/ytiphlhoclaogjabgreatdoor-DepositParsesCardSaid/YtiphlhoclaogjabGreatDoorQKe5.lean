/- Chapter 3: the reference's reader: rows, and lines that fail. -/
import Derived.Test.YtiphlhoclaogjabGreatDoorQKe3
set_option linter.unusedVariables false
set_option linter.unnecessarySimpa false
set_option linter.unusedSimpArgs false
namespace Go.Proofs.YtiphlhoclaogjabGreatDoor
open Go Go.Av
attribute [local irreducible] D6 B8 D8 D7 DQ E0 E1 St.le B4 B9
set_option maxRecDepth 100000
abbrev rB (rs:List (List Int)):Hp:=[(0,some (.row I3 1 0 (rs.map D2)))]
abbrev rA (ls:List CL) (cs:List C5) (rs:List (List Int)):AV:=.agg [.sl 2 (ls.map D3), .sl 7 (cs.map C0), .row 0 0 rs.length]
set_option maxHeartbeats 16000000 in
theorem Wq (tx:List UInt8) (w:List (List UInt8)) (c2:B4 Tryz.prog 38 [.str tx, .str [32]] (.sl 1 (w.map C1))) (ls:List CL) (cs:List C5) (rs:List (List Int)) (hw0:[] ∉ w) (hL:0 < w.length ∧ w.length ≤ 20001) (hB:ls.length ≤ 20001 ∧ cs.length ≤ 20001 ∧ rs.length ≤ 20001) (h1:B6 w 0 = I8) (hl:¬ w.length = 2 ∨ ¬ cs = [] ∨ ¬ rs = []):B9 Tryz.prog 48 1 (rB rs) [rA ls cs rs, .str tx] 1 (rB rs) (.tup [rA ls cs rs, .b false]):=by
 have g0:=C8 (ws:=w) (i:=0) (by omega)
 rw [h1] at g0
 clear h1
 have hl2:¬ w.length = 2 ∨ 0 < cs.length ∨ 0 < rs.length:=hl.imp id fun h=>h.imp List.length_pos_iff.2 List.length_pos_iff.2
 clear hl
 dsimp only [rB,rA]
 refine J1 Tryz.func48 240 fun E h0=>?_
 repeat' ((first | refine B2 c2 ?_ |refine A4 ?_|refine S1 ?_|refine Z1 ?_|refine Z2 ?_|(refine And.intro ?_ ?_<;>intro h<;>try first|(exfalso;omega)|exact absurd rfl h)|refine Z3 ?_|refine Z4 ?_|intro el hel hbB|intro el hel|intro ex|refine Z5 ?_|(refine A9 ?_ ?_;exact ⟨by kernel_rfl,by decide⟩)|refine A8 ?_ ?_|exact A7|refine A6 ?_ ?_|exact A5|(refine A0 ?_ ?_ ?_;kernel_rfl;kernel_rfl)) <;> (try (conv=>whnf)))
 all_goals first
  | (exfalso;omega)
  | skip
 refine C2 (ι:=Nat) (fun k=>⟨[(2, .ref 1 0),(4, .ref 2 0),(6, .sl 1 (w.map C1)),(7, .i k)],3,[(0,some (.row I3 1 0 (rs.map D2))),(1,some (.box [.sl 2 (ls.map D3), .sl 7 (cs.map C0), .row 0 0 rs.length])),(2,some (.box [.v (.slice none 0 0), .v (.slice none 0 0), .v (.slice none 0 0)]))]⟩) (fun k=>k ≤ w.length) (fun k=>w.length - k) 0  (Nat.zero_le _) (B0 h0 rfl ⟨rfl,rfl,rfl,rfl,trivial⟩ ⟨⟨_,rfl⟩,rfl,rfl,trivial⟩ rfl rfl rfl) (fun k hk=>?_)
 by_cases hlt:k < w.length
 ·obtain ⟨z,hz⟩:∃ z,w[k]? = some z:=⟨_,List.getElem?_eq_getElem hlt⟩
  have hze:¬ z = []:=fun e=>hw0 (e ▸ List.mem_of_getElem? hz)
  clear c2
  repeat' ((first | (refine A3 (x:=z) hz (by omega) ?_) |refine A4 ?_|refine S1 ?_|refine Z1 ?_|refine Z2 ?_|(refine And.intro ?_ ?_<;>intro h<;>try first|(exfalso;omega)|exact absurd rfl h)|refine Z3 ?_|refine Z4 ?_|intro el hel hbB|intro el hel|intro ex|refine Z5 ?_|(refine A9 ?_ ?_;exact ⟨by kernel_rfl,by decide⟩)|refine A8 ?_ ?_|exact A7|refine A6 ?_ ?_|exact A5|(refine A0 ?_ ?_ ?_;kernel_rfl;kernel_rfl)) <;> (try (conv=>whnf)))
  all_goals first
   | (exfalso;omega)
   | (exfalso;exact hze (by assumption))
   | exact ⟨k + 1,by omega,by omega,B0 h0 rfl ⟨rfl,rfl,rfl,rfl,trivial⟩ ⟨⟨_,rfl⟩,rfl,rfl,trivial⟩ rfl rfl rfl⟩
 ·clear c2
  repeat' ((first | (refine A3 (x:=I8) g0 (by omega) ?_) |refine A4 ?_|refine S1 ?_|refine Z1 ?_|refine Z2 ?_|(refine And.intro ?_ ?_<;>intro h<;>try first|(exfalso;omega)|exact absurd rfl h)|refine Z3 ?_|refine Z4 ?_|intro el hel hbB|intro el hel|intro ex|refine Z5 ?_|(refine A9 ?_ ?_;exact ⟨by kernel_rfl,by decide⟩)|refine A8 ?_ ?_|exact A7|refine A6 ?_ ?_|exact A5|(refine A0 ?_ ?_ ?_;kernel_rfl;kernel_rfl)) <;> (try (conv=>whnf)))
  all_goals first
   | (exfalso;omega)
   | exact H8 (rvs:=[.cell 4 As, .tmp 5]) (vs:=[_,_]) ⟨2,_,_,rfl,rfl,inferInstance,rfl,rfl,trivial⟩ rfl rfl (B0 h0 rfl ⟨rfl,rfl,trivial⟩ ⟨⟨_,rfl⟩,trivial⟩ rfl rfl rfl) rfl
   | contradiction
set_option maxHeartbeats 16000000 in
theorem Wr (tx:List UInt8) (w:List (List UInt8)) (c2:B4 Tryz.prog 38 [.str tx, .str [32]] (.sl 1 (w.map C1))) (ls:List CL) (cs:List C5) (rs:List (List Int)) (hw0:[] ∉ w) (hL:0 < w.length ∧ w.length ≤ 20001) (hB:ls.length ≤ 20001 ∧ cs.length ≤ 20001 ∧ rs.length ≤ 20001) (h1:B6 w 0 = W0) (hl:¬ w.length = 3 ∨ ls = [] ∨ ¬ cs = [] ∨ ¬ rs = []):B9 Tryz.prog 48 1 (rB rs) [rA ls cs rs, .str tx] 1 (rB rs) (.tup [rA ls cs rs, .b false]):=by
 have g0:=C8 (ws:=w) (i:=0) (by omega)
 rw [h1] at g0
 clear h1
 have hl2:¬ w.length = 3 ∨ ls.length = 0 ∨ 0 < cs.length ∨ 0 < rs.length:=hl.imp id fun h=>h.imp (fun e=>by rw [e];rfl) fun h=>h.imp List.length_pos_iff.2 List.length_pos_iff.2
 clear hl
 dsimp only [rB,rA]
 refine J1 Tryz.func48 240 fun E h0=>?_
 repeat' ((first | refine B2 c2 ?_ |refine A4 ?_|refine S1 ?_|refine Z1 ?_|refine Z2 ?_|(refine And.intro ?_ ?_<;>intro h<;>try first|(exfalso;omega)|exact absurd rfl h)|refine Z3 ?_|refine Z4 ?_|intro el hel hbB|intro el hel|intro ex|refine Z5 ?_|(refine A9 ?_ ?_;exact ⟨by kernel_rfl,by decide⟩)|refine A8 ?_ ?_|exact A7|refine A6 ?_ ?_|exact A5|(refine A0 ?_ ?_ ?_;kernel_rfl;kernel_rfl)) <;> (try (conv=>whnf)))
 all_goals first
  | (exfalso;omega)
  | skip
 refine C2 (ι:=Nat) (fun k=>⟨[(2, .ref 1 0),(4, .ref 2 0),(6, .sl 1 (w.map C1)),(7, .i k)],3,[(0,some (.row I3 1 0 (rs.map D2))),(1,some (.box [.sl 2 (ls.map D3), .sl 7 (cs.map C0), .row 0 0 rs.length])),(2,some (.box [.v (.slice none 0 0), .v (.slice none 0 0), .v (.slice none 0 0)]))]⟩) (fun k=>k ≤ w.length) (fun k=>w.length - k) 0  (Nat.zero_le _) (B0 h0 rfl ⟨rfl,rfl,rfl,rfl,trivial⟩ ⟨⟨_,rfl⟩,rfl,rfl,trivial⟩ rfl rfl rfl) (fun k hk=>?_)
 by_cases hlt:k < w.length
 ·obtain ⟨z,hz⟩:∃ z,w[k]? = some z:=⟨_,List.getElem?_eq_getElem hlt⟩
  have hze:¬ z = []:=fun e=>hw0 (e ▸ List.mem_of_getElem? hz)
  clear c2
  repeat' ((first | (refine A3 (x:=z) hz (by omega) ?_) |refine A4 ?_|refine S1 ?_|refine Z1 ?_|refine Z2 ?_|(refine And.intro ?_ ?_<;>intro h<;>try first|(exfalso;omega)|exact absurd rfl h)|refine Z3 ?_|refine Z4 ?_|intro el hel hbB|intro el hel|intro ex|refine Z5 ?_|(refine A9 ?_ ?_;exact ⟨by kernel_rfl,by decide⟩)|refine A8 ?_ ?_|exact A7|refine A6 ?_ ?_|exact A5|(refine A0 ?_ ?_ ?_;kernel_rfl;kernel_rfl)) <;> (try (conv=>whnf)))
  all_goals first
   | (exfalso;omega)
   | (exfalso;exact hze (by assumption))
   | exact ⟨k + 1,by omega,by omega,B0 h0 rfl ⟨rfl,rfl,rfl,rfl,trivial⟩ ⟨⟨_,rfl⟩,rfl,rfl,trivial⟩ rfl rfl rfl⟩
 ·clear c2
  repeat' ((first | (refine A3 (x:=W0) g0 (by omega) ?_) |refine A4 ?_|refine S1 ?_|refine Z1 ?_|refine Z2 ?_|(refine And.intro ?_ ?_<;>intro h<;>try first|(exfalso;omega)|exact absurd rfl h)|refine Z3 ?_|refine Z4 ?_|intro el hel hbB|intro el hel|intro ex|refine Z5 ?_|(refine A9 ?_ ?_;exact ⟨by kernel_rfl,by decide⟩)|refine A8 ?_ ?_|exact A7|refine A6 ?_ ?_|exact A5|(refine A0 ?_ ?_ ?_;kernel_rfl;kernel_rfl)) <;> (try (conv=>whnf)))
  all_goals first
   | (exfalso;omega)
   | exact H8 (rvs:=[.cell 4 As, .tmp 5]) (vs:=[_,_]) ⟨2,_,_,rfl,rfl,inferInstance,rfl,rfl,trivial⟩ rfl rfl (B0 h0 rfl ⟨rfl,rfl,trivial⟩ ⟨⟨_,rfl⟩,trivial⟩ rfl rfl rfl) rfl
   | contradiction
set_option maxHeartbeats 16000000 in
theorem Ug (tx:List UInt8) (w:List (List UInt8)) (c2:B4 Tryz.prog 38 [.str tx, .str [32]] (.sl 1 (w.map C1))) (ls:List CL) (cs:List C5) (rs:List (List Int)) (hw0:[] ∉ w) (hL:0 < w.length ∧ w.length ≤ 20001) (hB:ls.length ≤ 20001 ∧ cs.length ≤ 20001 ∧ rs.length ≤ 20001) (hwl:∀ z ∈ w,z.length ≤ 20000) (n:Int) (h1:B6 w 0 = W0) (hl:w.length = 3) (hok:D1 (B6 w 2) = (n,false)):B9 Tryz.prog 48 1 (rB rs) [rA ls cs rs, .str tx] 1 (rB rs) (.tup [rA ls cs rs, .b false]):=by
 have g0:=C8 (ws:=w) (i:=0) (by omega)
 rw [h1] at g0
 clear h1
 have g2:=C8 (ws:=w) (i:=2) (by omega)
 have hq:=L3 (B6 w 2) (by have:=hwl _ (List.mem_of_getElem? g2);omega)
 rw [hok] at hq
 clear hok hwl
 generalize B6 w 2 = z2 at *
 dsimp only [rB,rA]
 refine J1 Tryz.func48 240 fun E h0=>?_
 repeat' ((first | refine B2 c2 ?_ |refine A4 ?_|refine S1 ?_|refine Z1 ?_|refine Z2 ?_|(refine And.intro ?_ ?_<;>intro h<;>try first|(exfalso;omega)|exact absurd rfl h)|refine Z3 ?_|refine Z4 ?_|intro el hel hbB|intro el hel|intro ex|refine Z5 ?_|(refine A9 ?_ ?_;exact ⟨by kernel_rfl,by decide⟩)|refine A8 ?_ ?_|exact A7|refine A6 ?_ ?_|exact A5|(refine A0 ?_ ?_ ?_;kernel_rfl;kernel_rfl)) <;> (try (conv=>whnf)))
 all_goals first
  | (exfalso;omega)
  | skip
 refine C2 (ι:=Nat) (fun k=>⟨[(2, .ref 1 0),(4, .ref 2 0),(6, .sl 1 (w.map C1)),(7, .i k)],3,[(0,some (.row I3 1 0 (rs.map D2))),(1,some (.box [.sl 2 (ls.map D3), .sl 7 (cs.map C0), .row 0 0 rs.length])),(2,some (.box [.v (.slice none 0 0), .v (.slice none 0 0), .v (.slice none 0 0)]))]⟩) (fun k=>k ≤ w.length) (fun k=>w.length - k) 0  (Nat.zero_le _) (B0 h0 rfl ⟨rfl,rfl,rfl,rfl,trivial⟩ ⟨⟨_,rfl⟩,rfl,rfl,trivial⟩ rfl rfl rfl) (fun k hk=>?_)
 by_cases hlt:k < w.length
 ·obtain ⟨z,hz⟩:∃ z,w[k]? = some z:=⟨_,List.getElem?_eq_getElem hlt⟩
  have hze:¬ z = []:=fun e=>hw0 (e ▸ List.mem_of_getElem? hz)
  clear c2
  repeat' ((first | (refine A3 (x:=z) hz (by omega) ?_) |refine A4 ?_|refine S1 ?_|refine Z1 ?_|refine Z2 ?_|(refine And.intro ?_ ?_<;>intro h<;>try first|(exfalso;omega)|exact absurd rfl h)|refine Z3 ?_|refine Z4 ?_|intro el hel hbB|intro el hel|intro ex|refine Z5 ?_|(refine A9 ?_ ?_;exact ⟨by kernel_rfl,by decide⟩)|refine A8 ?_ ?_|exact A7|refine A6 ?_ ?_|exact A5|(refine A0 ?_ ?_ ?_;kernel_rfl;kernel_rfl)) <;> (try (conv=>whnf)))
  all_goals first
   | (exfalso;omega)
   | (exfalso;exact hze (by assumption))
   | exact ⟨k + 1,by omega,by omega,B0 h0 rfl ⟨rfl,rfl,rfl,rfl,trivial⟩ ⟨⟨_,rfl⟩,rfl,rfl,trivial⟩ rfl rfl rfl⟩
 ·clear c2
  repeat' ((first | (refine A3 (x:=W0) g0 (by omega) ?_) | (refine A3 (x:=z2) g2 (by omega) ?_) | refine B2 hq ?_ |refine A4 ?_|refine S1 ?_|refine Z1 ?_|refine Z2 ?_|(refine And.intro ?_ ?_<;>intro h<;>try first|(exfalso;omega)|exact absurd rfl h)|refine Z3 ?_|refine Z4 ?_|intro el hel hbB|intro el hel|intro ex|refine Z5 ?_|(refine A9 ?_ ?_;exact ⟨by kernel_rfl,by decide⟩)|refine A8 ?_ ?_|exact A7|refine A6 ?_ ?_|exact A5|(refine A0 ?_ ?_ ?_;kernel_rfl;kernel_rfl)) <;> (try (conv=>whnf)))
  all_goals first
   | (exfalso;omega)
   | exact H8 (rvs:=[.cell 4 As, .tmp 5]) (vs:=[_,_]) ⟨2,_,_,rfl,rfl,inferInstance,rfl,rfl,trivial⟩ rfl rfl (B0 h0 rfl ⟨rfl,rfl,trivial⟩ ⟨⟨_,rfl⟩,trivial⟩ rfl rfl rfl) rfl
   | contradiction
set_option maxHeartbeats 16000000 in
theorem Zb (tx:List UInt8) (w:List (List UInt8)) (c2:B4 Tryz.prog 38 [.str tx, .str [32]] (.sl 1 (w.map C1))) (ls:List CL) (cs:List C5) (rs:List (List Int)) (hw0:[] ∉ w) (hL:0 < w.length ∧ w.length ≤ 20001) (hB:ls.length ≤ 20001 ∧ cs.length ≤ 20001 ∧ rs.length ≤ 20001) (h1:B6 w 0 = U6) (hl:¬ w.length = 2 ∨ ¬ rs = []):B9 Tryz.prog 48 1 (rB rs) [rA ls cs rs, .str tx] 1 (rB rs) (.tup [rA ls cs rs, .b false]):=by
 have g0:=C8 (ws:=w) (i:=0) (by omega)
 rw [h1] at g0
 clear h1
 have hl2:¬ w.length = 2 ∨ 0 < rs.length:=hl.imp id List.length_pos_iff.2
 clear hl
 dsimp only [rB,rA]
 refine J1 Tryz.func48 240 fun E h0=>?_
 repeat' ((first | refine B2 c2 ?_ |refine A4 ?_|refine S1 ?_|refine Z1 ?_|refine Z2 ?_|(refine And.intro ?_ ?_<;>intro h<;>try first|(exfalso;omega)|exact absurd rfl h)|refine Z3 ?_|refine Z4 ?_|intro el hel hbB|intro el hel|intro ex|refine Z5 ?_|(refine A9 ?_ ?_;exact ⟨by kernel_rfl,by decide⟩)|refine A8 ?_ ?_|exact A7|refine A6 ?_ ?_|exact A5|(refine A0 ?_ ?_ ?_;kernel_rfl;kernel_rfl)) <;> (try (conv=>whnf)))
 all_goals first
  | (exfalso;omega)
  | skip
 refine C2 (ι:=Nat) (fun k=>⟨[(2, .ref 1 0),(4, .ref 2 0),(6, .sl 1 (w.map C1)),(7, .i k)],3,[(0,some (.row I3 1 0 (rs.map D2))),(1,some (.box [.sl 2 (ls.map D3), .sl 7 (cs.map C0), .row 0 0 rs.length])),(2,some (.box [.v (.slice none 0 0), .v (.slice none 0 0), .v (.slice none 0 0)]))]⟩) (fun k=>k ≤ w.length) (fun k=>w.length - k) 0  (Nat.zero_le _) (B0 h0 rfl ⟨rfl,rfl,rfl,rfl,trivial⟩ ⟨⟨_,rfl⟩,rfl,rfl,trivial⟩ rfl rfl rfl) (fun k hk=>?_)
 by_cases hlt:k < w.length
 ·obtain ⟨z,hz⟩:∃ z,w[k]? = some z:=⟨_,List.getElem?_eq_getElem hlt⟩
  have hze:¬ z = []:=fun e=>hw0 (e ▸ List.mem_of_getElem? hz)
  clear c2
  repeat' ((first | (refine A3 (x:=z) hz (by omega) ?_) |refine A4 ?_|refine S1 ?_|refine Z1 ?_|refine Z2 ?_|(refine And.intro ?_ ?_<;>intro h<;>try first|(exfalso;omega)|exact absurd rfl h)|refine Z3 ?_|refine Z4 ?_|intro el hel hbB|intro el hel|intro ex|refine Z5 ?_|(refine A9 ?_ ?_;exact ⟨by kernel_rfl,by decide⟩)|refine A8 ?_ ?_|exact A7|refine A6 ?_ ?_|exact A5|(refine A0 ?_ ?_ ?_;kernel_rfl;kernel_rfl)) <;> (try (conv=>whnf)))
  all_goals first
   | (exfalso;omega)
   | (exfalso;exact hze (by assumption))
   | exact ⟨k + 1,by omega,by omega,B0 h0 rfl ⟨rfl,rfl,rfl,rfl,trivial⟩ ⟨⟨_,rfl⟩,rfl,rfl,trivial⟩ rfl rfl rfl⟩
 ·clear c2
  repeat' ((first | (refine A3 (x:=U6) g0 (by omega) ?_) |refine A4 ?_|refine S1 ?_|refine Z1 ?_|refine Z2 ?_|(refine And.intro ?_ ?_<;>intro h<;>try first|(exfalso;omega)|exact absurd rfl h)|refine Z3 ?_|refine Z4 ?_|intro el hel hbB|intro el hel|intro ex|refine Z5 ?_|(refine A9 ?_ ?_;exact ⟨by kernel_rfl,by decide⟩)|refine A8 ?_ ?_|exact A7|refine A6 ?_ ?_|exact A5|(refine A0 ?_ ?_ ?_;kernel_rfl;kernel_rfl)) <;> (try (conv=>whnf)))
  all_goals first
   | (exfalso;omega)
   | exact H8 (rvs:=[.cell 4 As, .tmp 5]) (vs:=[_,_]) ⟨2,_,_,rfl,rfl,inferInstance,rfl,rfl,trivial⟩ rfl rfl (B0 h0 rfl ⟨rfl,rfl,trivial⟩ ⟨⟨_,rfl⟩,trivial⟩ rfl rfl rfl) rfl
   | contradiction
set_option maxHeartbeats 16000000 in
theorem Yn (tx:List UInt8) (w:List (List UInt8)) (c2:B4 Tryz.prog 38 [.str tx, .str [32]] (.sl 1 (w.map C1))) (ls:List CL) (cs:List C5) (rs:List (List Int)) (hw0:[] ∉ w) (hL:0 < w.length ∧ w.length ≤ 20001) (hB:ls.length ≤ 20001 ∧ cs.length ≤ 20001 ∧ rs.length ≤ 20001) (h1:B6 w 0 = O2) (hl:¬ w.length = 3 ∨ ¬ rs = []):B9 Tryz.prog 48 1 (rB rs) [rA ls cs rs, .str tx] 1 (rB rs) (.tup [rA ls cs rs, .b false]):=by
 have g0:=C8 (ws:=w) (i:=0) (by omega)
 rw [h1] at g0
 clear h1
 have hl2:¬ w.length = 3 ∨ 0 < rs.length:=hl.imp id List.length_pos_iff.2
 clear hl
 dsimp only [rB,rA]
 refine J1 Tryz.func48 240 fun E h0=>?_
 repeat' ((first | refine B2 c2 ?_ |refine A4 ?_|refine S1 ?_|refine Z1 ?_|refine Z2 ?_|(refine And.intro ?_ ?_<;>intro h<;>try first|(exfalso;omega)|exact absurd rfl h)|refine Z3 ?_|refine Z4 ?_|intro el hel hbB|intro el hel|intro ex|refine Z5 ?_|(refine A9 ?_ ?_;exact ⟨by kernel_rfl,by decide⟩)|refine A8 ?_ ?_|exact A7|refine A6 ?_ ?_|exact A5|(refine A0 ?_ ?_ ?_;kernel_rfl;kernel_rfl)) <;> (try (conv=>whnf)))
 all_goals first
  | (exfalso;omega)
  | skip
 refine C2 (ι:=Nat) (fun k=>⟨[(2, .ref 1 0),(4, .ref 2 0),(6, .sl 1 (w.map C1)),(7, .i k)],3,[(0,some (.row I3 1 0 (rs.map D2))),(1,some (.box [.sl 2 (ls.map D3), .sl 7 (cs.map C0), .row 0 0 rs.length])),(2,some (.box [.v (.slice none 0 0), .v (.slice none 0 0), .v (.slice none 0 0)]))]⟩) (fun k=>k ≤ w.length) (fun k=>w.length - k) 0  (Nat.zero_le _) (B0 h0 rfl ⟨rfl,rfl,rfl,rfl,trivial⟩ ⟨⟨_,rfl⟩,rfl,rfl,trivial⟩ rfl rfl rfl) (fun k hk=>?_)
 by_cases hlt:k < w.length
 ·obtain ⟨z,hz⟩:∃ z,w[k]? = some z:=⟨_,List.getElem?_eq_getElem hlt⟩
  have hze:¬ z = []:=fun e=>hw0 (e ▸ List.mem_of_getElem? hz)
  clear c2
  repeat' ((first | (refine A3 (x:=z) hz (by omega) ?_) |refine A4 ?_|refine S1 ?_|refine Z1 ?_|refine Z2 ?_|(refine And.intro ?_ ?_<;>intro h<;>try first|(exfalso;omega)|exact absurd rfl h)|refine Z3 ?_|refine Z4 ?_|intro el hel hbB|intro el hel|intro ex|refine Z5 ?_|(refine A9 ?_ ?_;exact ⟨by kernel_rfl,by decide⟩)|refine A8 ?_ ?_|exact A7|refine A6 ?_ ?_|exact A5|(refine A0 ?_ ?_ ?_;kernel_rfl;kernel_rfl)) <;> (try (conv=>whnf)))
  all_goals first
   | (exfalso;omega)
   | (exfalso;exact hze (by assumption))
   | exact ⟨k + 1,by omega,by omega,B0 h0 rfl ⟨rfl,rfl,rfl,rfl,trivial⟩ ⟨⟨_,rfl⟩,rfl,rfl,trivial⟩ rfl rfl rfl⟩
 ·clear c2
  repeat' ((first | (refine A3 (x:=O2) g0 (by omega) ?_) |refine A4 ?_|refine S1 ?_|refine Z1 ?_|refine Z2 ?_|(refine And.intro ?_ ?_<;>intro h<;>try first|(exfalso;omega)|exact absurd rfl h)|refine Z3 ?_|refine Z4 ?_|intro el hel hbB|intro el hel|intro ex|refine Z5 ?_|(refine A9 ?_ ?_;exact ⟨by kernel_rfl,by decide⟩)|refine A8 ?_ ?_|exact A7|refine A6 ?_ ?_|exact A5|(refine A0 ?_ ?_ ?_;kernel_rfl;kernel_rfl)) <;> (try (conv=>whnf)))
  all_goals first
   | (exfalso;omega)
   | exact H8 (rvs:=[.cell 4 As, .tmp 5]) (vs:=[_,_]) ⟨2,_,_,rfl,rfl,inferInstance,rfl,rfl,trivial⟩ rfl rfl (B0 h0 rfl ⟨rfl,rfl,trivial⟩ ⟨⟨_,rfl⟩,trivial⟩ rfl rfl rfl) rfl
   | contradiction
set_option maxHeartbeats 16000000 in
theorem Ws (tx:List UInt8) (w:List (List UInt8)) (c2:B4 Tryz.prog 38 [.str tx, .str [32]] (.sl 1 (w.map C1))) (ls:List CL) (cs:List C5) (rs:List (List Int)) (hw0:[] ∉ w) (hL:0 < w.length ∧ w.length ≤ 20001) (hB:ls.length ≤ 20001 ∧ cs.length ≤ 20001 ∧ rs.length ≤ 20001) (hwl:∀ z ∈ w,z.length ≤ 20000) (n:Int) (h1:B6 w 0 = O2) (hl:w.length = 3) (hok:D1 (B6 w 2) = (n,false)):B9 Tryz.prog 48 1 (rB rs) [rA ls cs rs, .str tx] 1 (rB rs) (.tup [rA ls cs rs, .b false]):=by
 have g0:=C8 (ws:=w) (i:=0) (by omega)
 rw [h1] at g0
 clear h1
 have g2:=C8 (ws:=w) (i:=2) (by omega)
 have hq:=L3 (B6 w 2) (by have:=hwl _ (List.mem_of_getElem? g2);omega)
 rw [hok] at hq
 clear hok hwl
 generalize B6 w 2 = z2 at *
 dsimp only [rB,rA]
 refine J1 Tryz.func48 240 fun E h0=>?_
 repeat' ((first | refine B2 c2 ?_ |refine A4 ?_|refine S1 ?_|refine Z1 ?_|refine Z2 ?_|(refine And.intro ?_ ?_<;>intro h<;>try first|(exfalso;omega)|exact absurd rfl h)|refine Z3 ?_|refine Z4 ?_|intro el hel hbB|intro el hel|intro ex|refine Z5 ?_|(refine A9 ?_ ?_;exact ⟨by kernel_rfl,by decide⟩)|refine A8 ?_ ?_|exact A7|refine A6 ?_ ?_|exact A5|(refine A0 ?_ ?_ ?_;kernel_rfl;kernel_rfl)) <;> (try (conv=>whnf)))
 all_goals first
  | (exfalso;omega)
  | skip
 refine C2 (ι:=Nat) (fun k=>⟨[(2, .ref 1 0),(4, .ref 2 0),(6, .sl 1 (w.map C1)),(7, .i k)],3,[(0,some (.row I3 1 0 (rs.map D2))),(1,some (.box [.sl 2 (ls.map D3), .sl 7 (cs.map C0), .row 0 0 rs.length])),(2,some (.box [.v (.slice none 0 0), .v (.slice none 0 0), .v (.slice none 0 0)]))]⟩) (fun k=>k ≤ w.length) (fun k=>w.length - k) 0  (Nat.zero_le _) (B0 h0 rfl ⟨rfl,rfl,rfl,rfl,trivial⟩ ⟨⟨_,rfl⟩,rfl,rfl,trivial⟩ rfl rfl rfl) (fun k hk=>?_)
 by_cases hlt:k < w.length
 ·obtain ⟨z,hz⟩:∃ z,w[k]? = some z:=⟨_,List.getElem?_eq_getElem hlt⟩
  have hze:¬ z = []:=fun e=>hw0 (e ▸ List.mem_of_getElem? hz)
  clear c2
  repeat' ((first | (refine A3 (x:=z) hz (by omega) ?_) |refine A4 ?_|refine S1 ?_|refine Z1 ?_|refine Z2 ?_|(refine And.intro ?_ ?_<;>intro h<;>try first|(exfalso;omega)|exact absurd rfl h)|refine Z3 ?_|refine Z4 ?_|intro el hel hbB|intro el hel|intro ex|refine Z5 ?_|(refine A9 ?_ ?_;exact ⟨by kernel_rfl,by decide⟩)|refine A8 ?_ ?_|exact A7|refine A6 ?_ ?_|exact A5|(refine A0 ?_ ?_ ?_;kernel_rfl;kernel_rfl)) <;> (try (conv=>whnf)))
  all_goals first
   | (exfalso;omega)
   | (exfalso;exact hze (by assumption))
   | exact ⟨k + 1,by omega,by omega,B0 h0 rfl ⟨rfl,rfl,rfl,rfl,trivial⟩ ⟨⟨_,rfl⟩,rfl,rfl,trivial⟩ rfl rfl rfl⟩
 ·clear c2
  repeat' ((first | (refine A3 (x:=O2) g0 (by omega) ?_) | (refine A3 (x:=z2) g2 (by omega) ?_) | refine B2 hq ?_ |refine A4 ?_|refine S1 ?_|refine Z1 ?_|refine Z2 ?_|(refine And.intro ?_ ?_<;>intro h<;>try first|(exfalso;omega)|exact absurd rfl h)|refine Z3 ?_|refine Z4 ?_|intro el hel hbB|intro el hel|intro ex|refine Z5 ?_|(refine A9 ?_ ?_;exact ⟨by kernel_rfl,by decide⟩)|refine A8 ?_ ?_|exact A7|refine A6 ?_ ?_|exact A5|(refine A0 ?_ ?_ ?_;kernel_rfl;kernel_rfl)) <;> (try (conv=>whnf)))
  all_goals first
   | (exfalso;omega)
   | exact H8 (rvs:=[.cell 4 As, .tmp 5]) (vs:=[_,_]) ⟨2,_,_,rfl,rfl,inferInstance,rfl,rfl,trivial⟩ rfl rfl (B0 h0 rfl ⟨rfl,rfl,trivial⟩ ⟨⟨_,rfl⟩,trivial⟩ rfl rfl rfl) rfl
   | contradiction
set_option maxHeartbeats 16000000 in
theorem Yo (tx:List UInt8) (w:List (List UInt8)) (c2:B4 Tryz.prog 38 [.str tx, .str [32]] (.sl 1 (w.map C1))) (ls:List CL) (cs:List C5) (rs:List (List Int)) (hw0:[] ∉ w) (hL:0 < w.length ∧ w.length ≤ 20001) (hB:ls.length ≤ 20001 ∧ cs.length ≤ 20001 ∧ rs.length ≤ 20001) (c:C5) (h1:B6 w 0 = L4) (hq:B4 Tryz.prog 76 [.sl 1 (w.map C1)] (.tup [M4 c, .b false])):B9 Tryz.prog 48 1 (rB rs) [rA ls cs rs, .str tx] 1 (rB rs) (.tup [rA ls cs rs, .b false]):=by
 have g0:=C8 (ws:=w) (i:=0) (by omega)
 rw [h1] at g0
 clear h1
 obtain ⟨nm,k0,l0,lo,hi,ws,op⟩:=c
 dsimp only [M4,C0] at hq
 dsimp only [rB,rA]
 refine J1 Tryz.func48 240 fun E h0=>?_
 repeat' ((first | refine B2 c2 ?_ |refine A4 ?_|refine S1 ?_|refine Z1 ?_|refine Z2 ?_|(refine And.intro ?_ ?_<;>intro h<;>try first|(exfalso;omega)|exact absurd rfl h)|refine Z3 ?_|refine Z4 ?_|intro el hel hbB|intro el hel|intro ex|refine Z5 ?_|(refine A9 ?_ ?_;exact ⟨by kernel_rfl,by decide⟩)|refine A8 ?_ ?_|exact A7|refine A6 ?_ ?_|exact A5|(refine A0 ?_ ?_ ?_;kernel_rfl;kernel_rfl)) <;> (try (conv=>whnf)))
 all_goals first
  | (exfalso;omega)
  | skip
 refine C2 (ι:=Nat) (fun k=>⟨[(2, .ref 1 0),(4, .ref 2 0),(6, .sl 1 (w.map C1)),(7, .i k)],3,[(0,some (.row I3 1 0 (rs.map D2))),(1,some (.box [.sl 2 (ls.map D3), .sl 7 (cs.map C0), .row 0 0 rs.length])),(2,some (.box [.v (.slice none 0 0), .v (.slice none 0 0), .v (.slice none 0 0)]))]⟩) (fun k=>k ≤ w.length) (fun k=>w.length - k) 0  (Nat.zero_le _) (B0 h0 rfl ⟨rfl,rfl,rfl,rfl,trivial⟩ ⟨⟨_,rfl⟩,rfl,rfl,trivial⟩ rfl rfl rfl) (fun k hk=>?_)
 by_cases hlt:k < w.length
 ·obtain ⟨z,hz⟩:∃ z,w[k]? = some z:=⟨_,List.getElem?_eq_getElem hlt⟩
  have hze:¬ z = []:=fun e=>hw0 (e ▸ List.mem_of_getElem? hz)
  clear c2
  repeat' ((first | (refine A3 (x:=z) hz (by omega) ?_) |refine A4 ?_|refine S1 ?_|refine Z1 ?_|refine Z2 ?_|(refine And.intro ?_ ?_<;>intro h<;>try first|(exfalso;omega)|exact absurd rfl h)|refine Z3 ?_|refine Z4 ?_|intro el hel hbB|intro el hel|intro ex|refine Z5 ?_|(refine A9 ?_ ?_;exact ⟨by kernel_rfl,by decide⟩)|refine A8 ?_ ?_|exact A7|refine A6 ?_ ?_|exact A5|(refine A0 ?_ ?_ ?_;kernel_rfl;kernel_rfl)) <;> (try (conv=>whnf)))
  all_goals first
   | (exfalso;omega)
   | (exfalso;exact hze (by assumption))
   | exact ⟨k + 1,by omega,by omega,B0 h0 rfl ⟨rfl,rfl,rfl,rfl,trivial⟩ ⟨⟨_,rfl⟩,rfl,rfl,trivial⟩ rfl rfl rfl⟩
 ·clear c2
  repeat' ((first | (refine A3 (x:=L4) g0 (by omega) ?_) | refine B2 hq ?_ |refine A4 ?_|refine S1 ?_|refine Z1 ?_|refine Z2 ?_|(refine And.intro ?_ ?_<;>intro h<;>try first|(exfalso;omega)|exact absurd rfl h)|refine Z3 ?_|refine Z4 ?_|intro el hel hbB|intro el hel|intro ex|refine Z5 ?_|(refine A9 ?_ ?_;exact ⟨by kernel_rfl,by decide⟩)|refine A8 ?_ ?_|exact A7|refine A6 ?_ ?_|exact A5|(refine A0 ?_ ?_ ?_;kernel_rfl;kernel_rfl)) <;> (try (conv=>whnf)))
  all_goals first
   | (exfalso;omega)
   | exact H8 (rvs:=[.cell 4 As, .tmp 5]) (vs:=[_,_]) ⟨2,_,_,rfl,rfl,inferInstance,rfl,rfl,trivial⟩ rfl rfl (B0 h0 rfl ⟨rfl,rfl,trivial⟩ ⟨⟨_,rfl⟩,trivial⟩ rfl rfl rfl) rfl
   | contradiction
set_option maxHeartbeats 16000000 in
theorem Wt (tx:List UInt8) (w:List (List UInt8)) (c2:B4 Tryz.prog 38 [.str tx, .str [32]] (.sl 1 (w.map C1))) (ls:List CL) (cs:List C5) (rs:List (List Int)) (hw0:[] ∉ w) (hL:0 < w.length ∧ w.length ≤ 20001) (hB:ls.length ≤ 20001 ∧ cs.length ≤ 20001 ∧ rs.length ≤ 20001) (c:C5) (h1:B6 w 0 = L4) (hl:¬ rs = []) (hq:B4 Tryz.prog 76 [.sl 1 (w.map C1)] (.tup [M4 c, .b true])):B9 Tryz.prog 48 1 (rB rs) [rA ls cs rs, .str tx] 1 (rB rs) (.tup [rA ls cs rs, .b false]):=by
 have g0:=C8 (ws:=w) (i:=0) (by omega)
 rw [h1] at g0
 clear h1
 obtain ⟨nm,k0,l0,lo,hi,ws,op⟩:=c
 dsimp only [M4,C0] at hq
 have hl2:0 < rs.length:=List.length_pos_iff.2 hl
 clear hl
 dsimp only [rB,rA]
 refine J1 Tryz.func48 240 fun E h0=>?_
 repeat' ((first | refine B2 c2 ?_ |refine A4 ?_|refine S1 ?_|refine Z1 ?_|refine Z2 ?_|(refine And.intro ?_ ?_<;>intro h<;>try first|(exfalso;omega)|exact absurd rfl h)|refine Z3 ?_|refine Z4 ?_|intro el hel hbB|intro el hel|intro ex|refine Z5 ?_|(refine A9 ?_ ?_;exact ⟨by kernel_rfl,by decide⟩)|refine A8 ?_ ?_|exact A7|refine A6 ?_ ?_|exact A5|(refine A0 ?_ ?_ ?_;kernel_rfl;kernel_rfl)) <;> (try (conv=>whnf)))
 all_goals first
  | (exfalso;omega)
  | skip
 refine C2 (ι:=Nat) (fun k=>⟨[(2, .ref 1 0),(4, .ref 2 0),(6, .sl 1 (w.map C1)),(7, .i k)],3,[(0,some (.row I3 1 0 (rs.map D2))),(1,some (.box [.sl 2 (ls.map D3), .sl 7 (cs.map C0), .row 0 0 rs.length])),(2,some (.box [.v (.slice none 0 0), .v (.slice none 0 0), .v (.slice none 0 0)]))]⟩) (fun k=>k ≤ w.length) (fun k=>w.length - k) 0  (Nat.zero_le _) (B0 h0 rfl ⟨rfl,rfl,rfl,rfl,trivial⟩ ⟨⟨_,rfl⟩,rfl,rfl,trivial⟩ rfl rfl rfl) (fun k hk=>?_)
 by_cases hlt:k < w.length
 ·obtain ⟨z,hz⟩:∃ z,w[k]? = some z:=⟨_,List.getElem?_eq_getElem hlt⟩
  have hze:¬ z = []:=fun e=>hw0 (e ▸ List.mem_of_getElem? hz)
  clear c2
  repeat' ((first | (refine A3 (x:=z) hz (by omega) ?_) |refine A4 ?_|refine S1 ?_|refine Z1 ?_|refine Z2 ?_|(refine And.intro ?_ ?_<;>intro h<;>try first|(exfalso;omega)|exact absurd rfl h)|refine Z3 ?_|refine Z4 ?_|intro el hel hbB|intro el hel|intro ex|refine Z5 ?_|(refine A9 ?_ ?_;exact ⟨by kernel_rfl,by decide⟩)|refine A8 ?_ ?_|exact A7|refine A6 ?_ ?_|exact A5|(refine A0 ?_ ?_ ?_;kernel_rfl;kernel_rfl)) <;> (try (conv=>whnf)))
  all_goals first
   | (exfalso;omega)
   | (exfalso;exact hze (by assumption))
   | exact ⟨k + 1,by omega,by omega,B0 h0 rfl ⟨rfl,rfl,rfl,rfl,trivial⟩ ⟨⟨_,rfl⟩,rfl,rfl,trivial⟩ rfl rfl rfl⟩
 ·clear c2
  repeat' ((first | (refine A3 (x:=L4) g0 (by omega) ?_) | refine B2 hq ?_ |refine A4 ?_|refine S1 ?_|refine Z1 ?_|refine Z2 ?_|(refine And.intro ?_ ?_<;>intro h<;>try first|(exfalso;omega)|exact absurd rfl h)|refine Z3 ?_|refine Z4 ?_|intro el hel hbB|intro el hel|intro ex|refine Z5 ?_|(refine A9 ?_ ?_;exact ⟨by kernel_rfl,by decide⟩)|refine A8 ?_ ?_|exact A7|refine A6 ?_ ?_|exact A5|(refine A0 ?_ ?_ ?_;kernel_rfl;kernel_rfl)) <;> (try (conv=>whnf)))
  all_goals first
   | (exfalso;omega)
   | exact H8 (rvs:=[.cell 4 As, .tmp 5]) (vs:=[_,_]) ⟨2,_,_,rfl,rfl,inferInstance,rfl,rfl,trivial⟩ rfl rfl (B0 h0 rfl ⟨rfl,rfl,trivial⟩ ⟨⟨_,rfl⟩,trivial⟩ rfl rfl rfl) rfl
   | contradiction
set_option maxHeartbeats 16000000 in
theorem Yp (tx:List UInt8) (w:List (List UInt8)) (c2:B4 Tryz.prog 38 [.str tx, .str [32]] (.sl 1 (w.map C1))) (ls:List CL) (cs:List C5) (rs:List (List Int)) (hw0:[] ∉ w) (hL:0 < w.length ∧ w.length ≤ 20001) (hB:ls.length ≤ 20001 ∧ cs.length ≤ 20001 ∧ rs.length ≤ 20001) (h1:B6 w 0 = N3) (hq:B4 Tryz.prog 77 [.agg [.sl 2 (ls.map D3), .sl 7 (cs.map C0)], .sl 1 (w.map C1)] (.tup [.sl 1 [], .b false])):B9 Tryz.prog 48 1 (rB rs) [rA ls cs rs, .str tx] 1 (rB rs) (.tup [rA ls cs rs, .b false]):=by
 have g0:=C8 (ws:=w) (i:=0) (by omega)
 rw [h1] at g0
 clear h1
 dsimp only [rB,rA]
 refine J1 Tryz.func48 240 fun E h0=>?_
 repeat' ((first | refine B2 c2 ?_ |refine A4 ?_|refine S1 ?_|refine Z1 ?_|refine Z2 ?_|(refine And.intro ?_ ?_<;>intro h<;>try first|(exfalso;omega)|exact absurd rfl h)|refine Z3 ?_|refine Z4 ?_|intro el hel hbB|intro el hel|intro ex|refine Z5 ?_|(refine A9 ?_ ?_;exact ⟨by kernel_rfl,by decide⟩)|refine A8 ?_ ?_|exact A7|refine A6 ?_ ?_|exact A5|(refine A0 ?_ ?_ ?_;kernel_rfl;kernel_rfl)) <;> (try (conv=>whnf)))
 all_goals first
  | (exfalso;omega)
  | skip
 refine C2 (ι:=Nat) (fun k=>⟨[(2, .ref 1 0),(4, .ref 2 0),(6, .sl 1 (w.map C1)),(7, .i k)],3,[(0,some (.row I3 1 0 (rs.map D2))),(1,some (.box [.sl 2 (ls.map D3), .sl 7 (cs.map C0), .row 0 0 rs.length])),(2,some (.box [.v (.slice none 0 0), .v (.slice none 0 0), .v (.slice none 0 0)]))]⟩) (fun k=>k ≤ w.length) (fun k=>w.length - k) 0  (Nat.zero_le _) (B0 h0 rfl ⟨rfl,rfl,rfl,rfl,trivial⟩ ⟨⟨_,rfl⟩,rfl,rfl,trivial⟩ rfl rfl rfl) (fun k hk=>?_)
 by_cases hlt:k < w.length
 ·obtain ⟨z,hz⟩:∃ z,w[k]? = some z:=⟨_,List.getElem?_eq_getElem hlt⟩
  have hze:¬ z = []:=fun e=>hw0 (e ▸ List.mem_of_getElem? hz)
  clear c2
  repeat' ((first | (refine A3 (x:=z) hz (by omega) ?_) |refine A4 ?_|refine S1 ?_|refine Z1 ?_|refine Z2 ?_|(refine And.intro ?_ ?_<;>intro h<;>try first|(exfalso;omega)|exact absurd rfl h)|refine Z3 ?_|refine Z4 ?_|intro el hel hbB|intro el hel|intro ex|refine Z5 ?_|(refine A9 ?_ ?_;exact ⟨by kernel_rfl,by decide⟩)|refine A8 ?_ ?_|exact A7|refine A6 ?_ ?_|exact A5|(refine A0 ?_ ?_ ?_;kernel_rfl;kernel_rfl)) <;> (try (conv=>whnf)))
  all_goals first
   | (exfalso;omega)
   | (exfalso;exact hze (by assumption))
   | exact ⟨k + 1,by omega,by omega,B0 h0 rfl ⟨rfl,rfl,rfl,rfl,trivial⟩ ⟨⟨_,rfl⟩,rfl,rfl,trivial⟩ rfl rfl rfl⟩
 ·clear c2
  repeat' ((first | (refine A3 (x:=N3) g0 (by omega) ?_) | refine B2 hq ?_ |refine A4 ?_|refine S1 ?_|refine Z1 ?_|refine Z2 ?_|(refine And.intro ?_ ?_<;>intro h<;>try first|(exfalso;omega)|exact absurd rfl h)|refine Z3 ?_|refine Z4 ?_|intro el hel hbB|intro el hel|intro ex|refine Z5 ?_|(refine A9 ?_ ?_;exact ⟨by kernel_rfl,by decide⟩)|refine A8 ?_ ?_|exact A7|refine A6 ?_ ?_|exact A5|(refine A0 ?_ ?_ ?_;kernel_rfl;kernel_rfl)) <;> (try (conv=>whnf)))
  all_goals first
   | (exfalso;omega)
   | exact H8 (rvs:=[.cell 4 As, .tmp 5]) (vs:=[_,_]) ⟨2,_,_,rfl,rfl,inferInstance,rfl,rfl,trivial⟩ rfl rfl (B0 h0 rfl ⟨rfl,rfl,trivial⟩ ⟨⟨_,rfl⟩,trivial⟩ rfl rfl rfl) rfl
   | contradiction
set_option maxHeartbeats 16000000 in
theorem Yq (tx:List UInt8) (w:List (List UInt8)) (c2:B4 Tryz.prog 38 [.str tx, .str [32]] (.sl 1 (w.map C1))) (ls:List CL) (cs:List C5) (rs:List (List Int)) (hw0:[] ∉ w) (hL:0 < w.length ∧ w.length ≤ 20001) (hB:ls.length ≤ 20001 ∧ cs.length ≤ 20001 ∧ rs.length ≤ 20001) (x:List Int) (h1:B6 w 0 = N3) (hq:B4 Tryz.prog 77 [.agg [.sl 2 (ls.map D3), .sl 7 (cs.map C0)], .sl 1 (w.map C1)] (.tup [.sl 1 (x.map wA), .b true])):B9 Tryz.prog 48 1 (rB rs) [rA ls cs rs, .str tx] 1 (rB (rs ++ [x])) (.tup [rA ls cs (rs ++ [x]), .b true]):=by
 have g0:=C8 (ws:=w) (i:=0) (by omega)
 rw [h1] at g0
 clear h1
 have hlen:rs.length + 1 = (rs ++ [x]).length:=by simp
 dsimp only [rB,rA]
 refine J1 Tryz.func48 240 fun E h0=>?_
 repeat' ((first | refine B2 c2 ?_ |refine A4 ?_|refine S1 ?_|refine Z1 ?_|refine Z2 ?_|(refine And.intro ?_ ?_<;>intro h<;>try first|(exfalso;omega)|exact absurd rfl h)|refine Z3 ?_|refine Z4 ?_|intro el hel hbB|intro el hel|intro ex|refine Z5 ?_|(refine A9 ?_ ?_;exact ⟨by kernel_rfl,by decide⟩)|refine A8 ?_ ?_|exact A7|refine A6 ?_ ?_|exact A5|(refine A0 ?_ ?_ ?_;kernel_rfl;kernel_rfl)) <;> (try (conv=>whnf)))
 all_goals first
  | (exfalso;omega)
  | skip
 refine C2 (ι:=Nat) (fun k=>⟨[(2, .ref 1 0),(4, .ref 2 0),(6, .sl 1 (w.map C1)),(7, .i k)],3,[(0,some (.row I3 1 0 (rs.map D2))),(1,some (.box [.sl 2 (ls.map D3), .sl 7 (cs.map C0), .row 0 0 rs.length])),(2,some (.box [.v (.slice none 0 0), .v (.slice none 0 0), .v (.slice none 0 0)]))]⟩) (fun k=>k ≤ w.length) (fun k=>w.length - k) 0  (Nat.zero_le _) (B0 h0 rfl ⟨rfl,rfl,rfl,rfl,trivial⟩ ⟨⟨_,rfl⟩,rfl,rfl,trivial⟩ rfl rfl rfl) (fun k hk=>?_)
 by_cases hlt:k < w.length
 ·obtain ⟨z,hz⟩:∃ z,w[k]? = some z:=⟨_,List.getElem?_eq_getElem hlt⟩
  have hze:¬ z = []:=fun e=>hw0 (e ▸ List.mem_of_getElem? hz)
  clear c2
  repeat' ((first | (refine A3 (x:=z) hz (by omega) ?_) |refine A4 ?_|refine S1 ?_|refine Z1 ?_|refine Z2 ?_|(refine And.intro ?_ ?_<;>intro h<;>try first|(exfalso;omega)|exact absurd rfl h)|refine Z3 ?_|refine Z4 ?_|intro el hel hbB|intro el hel|intro ex|refine Z5 ?_|(refine A9 ?_ ?_;exact ⟨by kernel_rfl,by decide⟩)|refine A8 ?_ ?_|exact A7|refine A6 ?_ ?_|exact A5|(refine A0 ?_ ?_ ?_;kernel_rfl;kernel_rfl)) <;> (try (conv=>whnf)))
  all_goals first
   | (exfalso;omega)
   | (exfalso;exact hze (by assumption))
   | exact ⟨k + 1,by omega,by omega,B0 h0 rfl ⟨rfl,rfl,rfl,rfl,trivial⟩ ⟨⟨_,rfl⟩,rfl,rfl,trivial⟩ rfl rfl rfl⟩
 ·clear c2
  repeat' ((first | (refine A3 (x:=N3) g0 (by omega) ?_) | refine B2 hq ?_ |refine A4 ?_|refine S1 ?_|refine Z1 ?_|refine Z2 ?_|(refine And.intro ?_ ?_<;>intro h<;>try first|(exfalso;omega)|exact absurd rfl h)|refine Z3 ?_|refine Z4 ?_|intro el hel hbB|intro el hel|intro ex|refine Z5 ?_|(refine A9 ?_ ?_;exact ⟨by kernel_rfl,by decide⟩)|refine A8 ?_ ?_|exact A7|refine A6 ?_ ?_|exact A5|(refine A0 ?_ ?_ ?_;kernel_rfl;kernel_rfl)) <;> (try (conv=>whnf)))
  all_goals first
   | (exfalso;omega)
   | exact H8 (rvs:=[.cell 4 As, .tmp 5]) (vs:=[_,_]) ⟨2,_,_,rfl,rfl,inferInstance,rfl,rfl,trivial⟩ rfl rfl (B0 h0 rfl ⟨congrArg (fun z=>some (AV.agg [.sl 2 (ls.map D3), .sl 7 (cs.map C0), .row 0 0 z])) hlen,rfl,trivial⟩ ⟨⟨_,congrArg (C6.row I3 1 _) (by rw [List.map_append];rfl)⟩,trivial⟩ rfl rfl rfl) rfl
   | contradiction
set_option maxHeartbeats 16000000 in
theorem Uh (tx:List UInt8) (w:List (List UInt8)) (c2:B4 Tryz.prog 38 [.str tx, .str [32]] (.sl 1 (w.map C1))) (ls:List CL) (cs:List C5) (rs:List (List Int)) (hw0:[] ∉ w) (hL:0 < w.length ∧ w.length ≤ 20001) (hB:ls.length ≤ 20001 ∧ cs.length ≤ 20001 ∧ rs.length ≤ 20001) (n1:¬ B6 w 0 = I8) (n2:¬ B6 w 0 = W0) (n3:¬ B6 w 0 = U6) (n4:¬ B6 w 0 = O2) (n5:¬ B6 w 0 = L4) (n6:¬ B6 w 0 = N3):B9 Tryz.prog 48 1 (rB rs) [rA ls cs rs, .str tx] 1 (rB rs) (.tup [rA ls cs rs, .b false]):=by
 have g0:=C8 (ws:=w) (i:=0) (by omega)
 generalize B6 w 0 = w0 at *
 dsimp only [rB,rA]
 refine J1 Tryz.func48 240 fun E h0=>?_
 repeat' ((first | refine B2 c2 ?_ |refine A4 ?_|refine S1 ?_|refine Z1 ?_|refine Z2 ?_|(refine And.intro ?_ ?_<;>intro h<;>try first|(exfalso;omega)|exact absurd rfl h)|refine Z3 ?_|refine Z4 ?_|intro el hel hbB|intro el hel|intro ex|refine Z5 ?_|(refine A9 ?_ ?_;exact ⟨by kernel_rfl,by decide⟩)|refine A8 ?_ ?_|exact A7|refine A6 ?_ ?_|exact A5|(refine A0 ?_ ?_ ?_;kernel_rfl;kernel_rfl)) <;> (try (conv=>whnf)))
 all_goals first
  | (exfalso;omega)
  | skip
 refine C2 (ι:=Nat) (fun k=>⟨[(2, .ref 1 0),(4, .ref 2 0),(6, .sl 1 (w.map C1)),(7, .i k)],3,[(0,some (.row I3 1 0 (rs.map D2))),(1,some (.box [.sl 2 (ls.map D3), .sl 7 (cs.map C0), .row 0 0 rs.length])),(2,some (.box [.v (.slice none 0 0), .v (.slice none 0 0), .v (.slice none 0 0)]))]⟩) (fun k=>k ≤ w.length) (fun k=>w.length - k) 0  (Nat.zero_le _) (B0 h0 rfl ⟨rfl,rfl,rfl,rfl,trivial⟩ ⟨⟨_,rfl⟩,rfl,rfl,trivial⟩ rfl rfl rfl) (fun k hk=>?_)
 by_cases hlt:k < w.length
 ·obtain ⟨z,hz⟩:∃ z,w[k]? = some z:=⟨_,List.getElem?_eq_getElem hlt⟩
  have hze:¬ z = []:=fun e=>hw0 (e ▸ List.mem_of_getElem? hz)
  clear c2
  repeat' ((first | (refine A3 (x:=z) hz (by omega) ?_) |refine A4 ?_|refine S1 ?_|refine Z1 ?_|refine Z2 ?_|(refine And.intro ?_ ?_<;>intro h<;>try first|(exfalso;omega)|exact absurd rfl h)|refine Z3 ?_|refine Z4 ?_|intro el hel hbB|intro el hel|intro ex|refine Z5 ?_|(refine A9 ?_ ?_;exact ⟨by kernel_rfl,by decide⟩)|refine A8 ?_ ?_|exact A7|refine A6 ?_ ?_|exact A5|(refine A0 ?_ ?_ ?_;kernel_rfl;kernel_rfl)) <;> (try (conv=>whnf)))
  all_goals first
   | (exfalso;omega)
   | (exfalso;exact hze (by assumption))
   | exact ⟨k + 1,by omega,by omega,B0 h0 rfl ⟨rfl,rfl,rfl,rfl,trivial⟩ ⟨⟨_,rfl⟩,rfl,rfl,trivial⟩ rfl rfl rfl⟩
 ·clear c2
  repeat' ((first | (refine A3 (x:=w0) g0 (by omega) ?_) |refine A4 ?_|refine S1 ?_|refine Z1 ?_|refine Z2 ?_|(refine And.intro ?_ ?_<;>intro h<;>try first|(exfalso;omega)|exact absurd rfl h)|refine Z3 ?_|refine Z4 ?_|intro el hel hbB|intro el hel|intro ex|refine Z5 ?_|(refine A9 ?_ ?_;exact ⟨by kernel_rfl,by decide⟩)|refine A8 ?_ ?_|exact A7|refine A6 ?_ ?_|exact A5|(refine A0 ?_ ?_ ?_;kernel_rfl;kernel_rfl)) <;> (try (conv=>whnf)))
  all_goals first
   | (exfalso;omega)
   | (exfalso;first | exact n1 (by assumption) | exact n2 (by assumption) | exact n3 (by assumption) | exact n4 (by assumption) | exact n5 (by assumption) | exact n6 (by assumption))
   | exact H8 (rvs:=[.cell 4 As, .tmp 5]) (vs:=[_,_]) ⟨2,_,_,rfl,rfl,inferInstance,rfl,rfl,trivial⟩ rfl rfl (B0 h0 rfl ⟨rfl,rfl,trivial⟩ ⟨⟨_,rfl⟩,trivial⟩ rfl rfl rfl) rfl
   | contradiction
set_option maxHeartbeats 16000000 in
theorem Ui (tx:List UInt8) (w:List (List UInt8)) (c2:B4 Tryz.prog 38 [.str tx, .str [32]] (.sl 1 (w.map C1))) (ls:List CL) (cs:List C5) (rs:List (List Int)) (hw0:[] ∈ w) (hL:w.length ≤ 20001):B9 Tryz.prog 48 1 (rB rs) [rA ls cs rs, .str tx] 1 (rB rs) (.tup [rA ls cs rs, .b false]):=by
 dsimp only [rB,rA]
 refine J1 Tryz.func48 240 fun E h0=>?_
 repeat' ((first | refine B2 c2 ?_ |refine A4 ?_|refine S1 ?_|refine Z1 ?_|refine Z2 ?_|(refine And.intro ?_ ?_<;>intro h<;>try first|(exfalso;omega)|exact absurd rfl h)|refine Z3 ?_|refine Z4 ?_|intro el hel hbB|intro el hel|intro ex|refine Z5 ?_|(refine A9 ?_ ?_;exact ⟨by kernel_rfl,by decide⟩)|refine A8 ?_ ?_|exact A7|refine A6 ?_ ?_|exact A5|(refine A0 ?_ ?_ ?_;kernel_rfl;kernel_rfl)) <;> (try (conv=>whnf)))
 all_goals first
  | (exfalso;omega)
  | skip
 refine C2 (ι:=Nat) (fun k=>⟨[(2, .ref 1 0),(4, .ref 2 0),(6, .sl 1 (w.map C1)),(7, .i k)],3,[(0,some (.row I3 1 0 (rs.map D2))),(1,some (.box [.sl 2 (ls.map D3), .sl 7 (cs.map C0), .row 0 0 rs.length])),(2,some (.box [.v (.slice none 0 0), .v (.slice none 0 0), .v (.slice none 0 0)]))]⟩) (fun k=>k ≤ w.length ∧ ∀ j,j < k → w[j]? ≠ some []) (fun k=>w.length - k) 0  ⟨Nat.zero_le _,fun j h=>absurd h (Nat.not_lt_zero j)⟩ (B0 h0 rfl ⟨rfl,rfl,rfl,rfl,trivial⟩ ⟨⟨_,rfl⟩,rfl,rfl,trivial⟩ rfl rfl rfl) (fun k hk=>?_)
 obtain ⟨hk,hne⟩:=hk
 by_cases hlt:k < w.length
 ·obtain ⟨z,hz⟩:∃ z,w[k]? = some z:=⟨_,List.getElem?_eq_getElem hlt⟩
  clear c2
  by_cases hze:z = []
  ·repeat' ((first | (refine A3 (x:=z) hz (by omega) ?_) |refine A4 ?_|refine S1 ?_|refine Z1 ?_|refine Z2 ?_|(refine And.intro ?_ ?_<;>intro h<;>try first|(exfalso;omega)|exact absurd rfl h)|refine Z3 ?_|refine Z4 ?_|intro el hel hbB|intro el hel|intro ex|refine Z5 ?_|(refine A9 ?_ ?_;exact ⟨by kernel_rfl,by decide⟩)|refine A8 ?_ ?_|exact A7|refine A6 ?_ ?_|exact A5|(refine A0 ?_ ?_ ?_;kernel_rfl;kernel_rfl)) <;> (try (conv=>whnf)))
   all_goals first
    | (exfalso;omega)
    | exact H8 (rvs:=[.cell 4 As, .tmp 5]) (vs:=[_,_]) ⟨2,_,_,rfl,rfl,inferInstance,rfl,rfl,trivial⟩ rfl rfl (B0 h0 rfl ⟨rfl,rfl,trivial⟩ ⟨⟨_,rfl⟩,trivial⟩ rfl rfl rfl) rfl
    | (exfalso;exact absurd hze (by assumption))
  ·have hst:∀ j,j < k + 1 → w[j]? ≠ some []:=fun j hj=>by
    rcases Nat.lt_succ_iff_lt_or_eq.1 hj with h | rfl
    ·exact hne j h
    ·rw [hz];exact fun e=>hze (Option.some.inj e)
   repeat' ((first | (refine A3 (x:=z) hz (by omega) ?_) |refine A4 ?_|refine S1 ?_|refine Z1 ?_|refine Z2 ?_|(refine And.intro ?_ ?_<;>intro h<;>try first|(exfalso;omega)|exact absurd rfl h)|refine Z3 ?_|refine Z4 ?_|intro el hel hbB|intro el hel|intro ex|refine Z5 ?_|(refine A9 ?_ ?_;exact ⟨by kernel_rfl,by decide⟩)|refine A8 ?_ ?_|exact A7|refine A6 ?_ ?_|exact A5|(refine A0 ?_ ?_ ?_;kernel_rfl;kernel_rfl)) <;> (try (conv=>whnf)))
   all_goals first
    | (exfalso;omega)
    | (exfalso;exact hze (by assumption))
    | exact ⟨k + 1,⟨by omega,hst⟩,by omega,B0 h0 rfl ⟨rfl,rfl,rfl,rfl,trivial⟩ ⟨⟨_,rfl⟩,rfl,rfl,trivial⟩ rfl rfl rfl⟩
 ·exfalso
  obtain ⟨j,hj⟩:=List.mem_iff_getElem?.1 hw0
  have hjl:j < w.length:=(List.getElem?_eq_some_iff.1 hj).1
  exact hne j (by omega) hj
end Go.Proofs.YtiphlhoclaogjabGreatDoor
