/- Chapter 3: the program's reader of files: columns. -/
import Derived.Test.YtiphlhoclaogjabGreatDoorQAvI
import Derived.Test.YtiphlhoclaogjabGreatDoorQF7
import Derived.Test.YtiphlhoclaogjabGreatDoorQB12
set_option linter.unusedVariables false
set_option linter.unnecessarySimpa false
set_option linter.unusedSimpArgs false
namespace Go.Proofs.YtiphlhoclaogjabGreatDoor
open Go Go.Av
attribute [local irreducible] D6 B8 D8 D7 DQ E0 E1 St.le B4 B9
set_option maxRecDepth 100000
abbrev YZ:Nat:=9
set_option maxHeartbeats 4000000 in
theorem Pb (n:Nat) (h1:0 < n) (h2:n ≤ 1000000):B9 Tryz.prog 124 0 [] [.v (.slice none 0 0), .i n] 1 [(0,some (.row YZ 1 0 []))] (.row 0 0 0):=by
 refine J1 Tryz.func124 27 fun E h0=>?_
 repeat' ((first | refine MT rfl rfl ?_ | refine JB rfl rfl rfl rfl ?_ | refine Fg rfl rfl (by omega) (by omega) (by rfl) (by rfl) (by omega) (by rfl) rfl ?_ | refine Iy rfl rfl rfl rfl (by decide) (by decide) (by omega) rfl ?_ |refine A4 ?_|refine S1 ?_|refine Z1 ?_|refine Z2 ?_|(refine And.intro ?_ ?_<;>intro h<;>try first|(exfalso;omega)|exact absurd rfl h)|refine Z3 ?_|refine Z4 ?_|intro el hel hbB|intro el hel|intro ex|refine Z5 ?_|(refine A9 ?_ ?_;exact ⟨by kernel_rfl,by decide⟩)|refine A8 ?_ ?_|exact A7|refine A6 ?_ ?_|exact A5|(refine A0 ?_ ?_ ?_;kernel_rfl;kernel_rfl)) <;> (try (conv=>whnf)))
 all_goals first
  | (exfalso;omega)
  | exact D5 (C3 (Tw (d:=4) rfl rfl (by decide) (by decide)) (B0 h0 rfl ⟨rfl,trivial⟩ ⟨⟨_,rfl⟩,trivial⟩ rfl rfl rfl))
abbrev VQ (l:List (List UInt8)):List AV:=[.sl 1 (l.map C1)]
theorem Jx {α:Type} {ws:List (List α)} {k:Nat} {x:List α} (h:ws[k]? = some x):(ws.take (k + 1)).flatten = (ws.take k).flatten ++ x:=by
 rw [Q2 h,List.flatten_append];simp
theorem MU {α:Type} (ws:List (List α)) (k:Nat):(ws.take k).flatten.length ≤ ws.flatten.length:=by
 have:ws.flatten = (ws.take k).flatten ++ (ws.drop k).flatten:=by rw [← List.flatten_append,List.take_append_drop]
 rw [this,List.length_append];omega
set_option maxHeartbeats 8000000 in
theorem FC (ws:List (List (List UInt8))) (h1:0 < ws.flatten.length) (h2:ws.flatten.length ≤ 100000) (hn:ws.length ≤ 1000):B4 Tryz.prog 97 [.sl 1 (ws.map VQ)] (.sl 1 (ws.flatten.map C1)):=by
 have hg:=Pb ws.flatten.length h1 (by omega)
 have hle:=MU ws
 refine F3 Tryz.func97 36 fun hrd E h0=>?_
 clear hrd
 repeat' ((first|refine A4 ?_|refine S1 ?_|refine Z1 ?_|refine Z2 ?_|(refine And.intro ?_ ?_<;>intro h<;>try first|(exfalso;omega)|exact absurd rfl h)|refine Z3 ?_|refine Z4 ?_|intro el hel hbB|intro el hel|intro ex|refine Z5 ?_|(refine A9 ?_ ?_;exact ⟨by kernel_rfl,by decide⟩)|refine A8 ?_ ?_|exact A7|refine A6 ?_ ?_|exact A5|(refine A0 ?_ ?_ ?_;kernel_rfl;kernel_rfl)) <;> (try (conv=>whnf)))
 refine C2 (ι:=Nat) (fun k=>⟨[(0, .sl 1 (ws.map VQ)),(3, .i (ws.take k).flatten.length),(9, .sl 1 (ws.map VQ)),(10, .i ws.length),(11, .i k)],0,[]⟩) (fun k=>k ≤ ws.length) (fun k=>ws.length - k) 0 (Nat.zero_le _) (B0 h0 rfl ⟨rfl,rfl,rfl,rfl,rfl,trivial⟩ trivial rfl rfl rfl) (fun k hk=>?_)
 by_cases hlt:k < ws.length
 ·obtain ⟨x,hx⟩:∃ x,ws[k]? = some x:=⟨_,List.getElem?_eq_getElem hlt⟩
  have hst:=Jx hx
  have h3:=hle (k + 1)
  have h4:((ws.take k).flatten.length:Int) + x.length = ((ws.take (k + 1)).flatten.length:Nat):=by rw [hst,List.length_append];omega
  rw [hst,List.length_append] at h3
  repeat' ((first | (refine A3 (x:=x) hx (by omega) ?_) |refine A4 ?_|refine S1 ?_|refine Z1 ?_|refine Z2 ?_|(refine And.intro ?_ ?_<;>intro h<;>try first|(exfalso;omega)|exact absurd rfl h)|refine Z3 ?_|refine Z4 ?_|intro el hel hbB|intro el hel|intro ex|refine Z5 ?_|(refine A9 ?_ ?_;exact ⟨by kernel_rfl,by decide⟩)|refine A8 ?_ ?_|exact A7|refine A6 ?_ ?_|exact A5|(refine A0 ?_ ?_ ?_;kernel_rfl;kernel_rfl)) <;> (try (conv=>whnf)))
  all_goals first
   | (exfalso;omega)
   | exact ⟨k + 1,by omega,by omega,B0 h0 rfl ⟨rfl,congrArg (fun z=>some (AV.i z)) h4,rfl,rfl,rfl,trivial⟩ trivial rfl rfl rfl⟩
 ·obtain rfl:k = ws.length:=by omega
  rw [List.take_length]
  repeat' ((first | refine b9 [] [] hg rfl rfl rfl rfl rfl trivial rfl rfl rfl rfl rfl ?_ |refine A4 ?_|refine S1 ?_|refine Z1 ?_|refine Z2 ?_|(refine And.intro ?_ ?_<;>intro h<;>try first|(exfalso;omega)|exact absurd rfl h)|refine Z3 ?_|refine Z4 ?_|intro el hel hbB|intro el hel|intro ex|refine Z5 ?_|(refine A9 ?_ ?_;exact ⟨by kernel_rfl,by decide⟩)|refine A8 ?_ ?_|exact A7|refine A6 ?_ ?_|exact A5|(refine A0 ?_ ?_ ?_;kernel_rfl;kernel_rfl)) <;> (try (conv=>whnf)))
  all_goals first
   | (exfalso;omega)
   | skip
  refine C2 (ι:=Nat) (fun k=>⟨[(6, .row 0 0 (ws.take k).flatten.length),(25, .sl 1 (ws.map VQ)),(26, .i ws.length),(27, .i k)],1,[(0,some (.row YZ 1 0 ((ws.take k).flatten.map C1)))]⟩) (fun k=>k ≤ ws.length) (fun k=>ws.length - k) 0 (Nat.zero_le _) (B0 h0 rfl ⟨rfl,rfl,rfl,rfl,trivial⟩ ⟨⟨_,rfl⟩,trivial⟩ rfl rfl rfl) (fun k hk=>?_)
  by_cases hlt:k < ws.length
  ·obtain ⟨x,hx⟩:∃ x,ws[k]? = some x:=⟨_,List.getElem?_eq_getElem hlt⟩
   have hst:=Jx hx
   have h3:=hle (k + 1)
   have e1:(ws.take k).flatten.length + x.length = (ws.take (k + 1)).flatten.length:=by rw [hst,List.length_append]
   rw [hst,List.length_append] at h3
   repeat' ((first | (refine A3 (x:=x) hx (by omega) ?_) |refine A4 ?_|refine S1 ?_|refine Z1 ?_|refine Z2 ?_|(refine And.intro ?_ ?_<;>intro h<;>try first|(exfalso;omega)|exact absurd rfl h)|refine Z3 ?_|refine Z4 ?_|intro el hel hbB|intro el hel|intro ex|refine Z5 ?_|(refine A9 ?_ ?_;exact ⟨by kernel_rfl,by decide⟩)|refine A8 ?_ ?_|exact A7|refine A6 ?_ ?_|exact A5|(refine A0 ?_ ?_ ?_;kernel_rfl;kernel_rfl)) <;> (try (conv=>whnf)))
   all_goals first
    | (exfalso;omega)
    | exact ⟨k + 1,by omega,by omega,B0 h0 rfl ⟨congrArg (fun z=>some (AV.row 0 _ z)) (by rw [← e1,List.length_map]),rfl,rfl,rfl,trivial⟩ ⟨⟨_,congrArg (C6.row YZ 1 _) (by rw [hst,List.map_append])⟩,trivial⟩ rfl rfl rfl⟩
  ·obtain rfl:k = ws.length:=by omega
   rw [List.take_length]
   repeat' ((first|refine A4 ?_|refine S1 ?_|refine Z1 ?_|refine Z2 ?_|(refine And.intro ?_ ?_<;>intro h<;>try first|(exfalso;omega)|exact absurd rfl h)|refine Z3 ?_|refine Z4 ?_|intro el hel hbB|intro el hel|intro ex|refine Z5 ?_|(refine A9 ?_ ?_;exact ⟨by kernel_rfl,by decide⟩)|refine A8 ?_ ?_|exact A7|refine A6 ?_ ?_|exact A5|(refine A0 ?_ ?_ ?_;kernel_rfl;kernel_rfl)) <;> (try (conv=>whnf)))
   all_goals first
    | (exfalso;omega)
    | exact B5 rfl rfl
set_option maxHeartbeats 16000000 in
theorem Ya (r:F5) (w:List (List UInt8)) (h:r.st = 2 ∨ w.length < 2):B9 Tryz.prog 69 4 (R8 r) [.ref 0 0, .sl 1 (w.map C1)] 4 (R8 r) (.b false):=by
 obtain ⟨ls,cs,rs,st⟩:=r
 dsimp only at *
 dsimp only [R8,Z9]
 refine J1 Tryz.func69 104 fun E h0=>?_
 repeat' ((first|refine A4 ?_|refine S1 ?_|refine Z1 ?_|refine Z2 ?_|(refine And.intro ?_ ?_<;>intro h<;>try first|(exfalso;omega)|exact absurd rfl h)|refine Z3 ?_|refine Z4 ?_|intro el hel hbB|intro el hel|intro ex|refine Z5 ?_|(refine A9 ?_ ?_;exact ⟨by kernel_rfl,by decide⟩)|refine A8 ?_ ?_|exact A7|refine A6 ?_ ?_|exact A5|(refine A0 ?_ ?_ ?_;kernel_rfl;kernel_rfl)) <;> (try (conv=>whnf)))
 all_goals first
  | (exfalso;omega)
  | exact B0 h0 rfl ⟨rfl,trivial⟩ ⟨congrArg (fun z=>C6.box [.row 1 0 ls.length, .row 2 0 z, .row 3 0 rs.length, .i 1]) (by rw [List.length_append];rfl),⟨_,rfl⟩,⟨_,congrArg (C6.row J2 7 _) (by rw [List.map_append];rfl)⟩,⟨_,rfl⟩,trivial⟩ rfl rfl rfl
  | exact B0 h0 rfl ⟨rfl,rfl,rfl,trivial⟩ ⟨rfl,⟨_,rfl⟩,⟨_,rfl⟩,⟨_,rfl⟩,congrArg (fun z=>C6.box [.str nm, .i 3, .i 0, .i a, .i b, .sl 1 z, .b (decide (w4 = H2))]) hsl,trivial⟩ rfl rfl rfl
  | exact D5 (B0 h0 rfl ⟨rfl,trivial⟩ ⟨rfl,⟨_,rfl⟩,⟨_,rfl⟩,⟨_,rfl⟩,trivial⟩ rfl rfl rfl)
  | contradiction
  | (exfalso;rcases h3 with g | ⟨g1,g2⟩;(omega);first | exact (show ¬ ¬ w4 = G8 by assumption) g1 | exact (show ¬ ¬ w4 = H2 by assumption) g2)
  | (exfalso;rcases h3 with g | g;exact (show ¬ w4 = G8 by assumption) g;exact (show ¬ w4 = H2 by assumption) g)
  | exact D5 (B0 h0 rfl ⟨congrArg (fun z=>some (AV.b z)) hok,trivial⟩ ⟨rfl,⟨_,rfl⟩,⟨_,rfl⟩,⟨_,rfl⟩,trivial⟩ rfl rfl rfl)
set_option maxHeartbeats 16000000 in
theorem Rl (r:F5) (w:List (List UInt8)) (hst:¬ r.st = 2) (hl:¬ w.length < 2) (h1:¬ B6 w 0 = U6) (h2:¬ B6 w 0 = O2) (h3:w.length < 6 ∨ ¬ B6 w 4 = G8 ∧ ¬ B6 w 4 = H2):B9 Tryz.prog 69 4 (R8 r) [.ref 0 0, .sl 1 (w.map C1)] 4 (R8 ⟨r.lists,r.cols,r.rows,1⟩) (.b false):=by
 obtain ⟨ls,cs,rs,st⟩:=r
 dsimp only at *
 have g0:=C8 (ws:=w) (i:=0) (by omega)
 have g1:=C8 (ws:=w) (i:=1) (by omega)
 have g4:4 < w.length → w[4]? = some (B6 w 4):=fun h=>C8 h
 generalize B6 w 0 = w0 at *
 generalize B6 w 1 = nm at *
 generalize B6 w 4 = w4 at *
 dsimp only [R8,Z9]
 refine J1 Tryz.func69 104 fun E h0=>?_
 repeat' ((first | (refine A3 (x:=w0) g0 (by omega) ?_) | (refine A3 (x:=nm) g1 (by omega) ?_) | (refine A3 (x:=w4) (g4 (by omega)) (by omega) ?_) |refine A4 ?_|refine S1 ?_|refine Z1 ?_|refine Z2 ?_|(refine And.intro ?_ ?_<;>intro h<;>try first|(exfalso;omega)|exact absurd rfl h)|refine Z3 ?_|refine Z4 ?_|intro el hel hbB|intro el hel|intro ex|refine Z5 ?_|(refine A9 ?_ ?_;exact ⟨by kernel_rfl,by decide⟩)|refine A8 ?_ ?_|exact A7|refine A6 ?_ ?_|exact A5|(refine A0 ?_ ?_ ?_;kernel_rfl;kernel_rfl)) <;> (try (conv=>whnf)))
 all_goals first
  | (exfalso;omega)
  | exact B0 h0 rfl ⟨rfl,trivial⟩ ⟨congrArg (fun z=>C6.box [.row 1 0 ls.length, .row 2 0 z, .row 3 0 rs.length, .i 1]) (by rw [List.length_append];rfl),⟨_,rfl⟩,⟨_,congrArg (C6.row J2 7 _) (by rw [List.map_append];rfl)⟩,⟨_,rfl⟩,trivial⟩ rfl rfl rfl
  | exact B0 h0 rfl ⟨rfl,rfl,rfl,trivial⟩ ⟨rfl,⟨_,rfl⟩,⟨_,rfl⟩,⟨_,rfl⟩,congrArg (fun z=>C6.box [.str nm, .i 3, .i 0, .i a, .i b, .sl 1 z, .b (decide (w4 = H2))]) hsl,trivial⟩ rfl rfl rfl
  | exact D5 (B0 h0 rfl ⟨rfl,trivial⟩ ⟨rfl,⟨_,rfl⟩,⟨_,rfl⟩,⟨_,rfl⟩,trivial⟩ rfl rfl rfl)
  | contradiction
  | (exfalso;rcases h3 with g | ⟨g1,g2⟩;(omega);first | exact (show ¬ ¬ w4 = G8 by assumption) g1 | exact (show ¬ ¬ w4 = H2 by assumption) g2)
  | (exfalso;rcases h3 with g | g;exact (show ¬ w4 = G8 by assumption) g;exact (show ¬ w4 = H2 by assumption) g)
  | exact D5 (B0 h0 rfl ⟨congrArg (fun z=>some (AV.b z)) hok,trivial⟩ ⟨rfl,⟨_,rfl⟩,⟨_,rfl⟩,⟨_,rfl⟩,trivial⟩ rfl rfl rfl)
set_option maxHeartbeats 16000000 in
theorem Yb (r:F5) (w:List (List UInt8)) (hn:r.cols.length ≤ 20000) (hst:¬ r.st = 2) (hl:¬ w.length < 2) (h1:B6 w 0 = U6):B9 Tryz.prog 69 4 (R8 r) [.ref 0 0, .sl 1 (w.map C1)] 4 (R8 ⟨r.lists,r.cols ++ [⟨B6 w 1,1,0,0,0,[],false⟩],r.rows,1⟩) (.b (decide (w.length = 2))):=by
 obtain ⟨ls,cs,rs,st⟩:=r
 dsimp only at *
 have g0:=C8 (ws:=w) (i:=0) (by omega)
 have g1:=C8 (ws:=w) (i:=1) (by omega)
 rw [h1] at g0
 clear h1
 generalize B6 w 1 = nm at *
 generalize hok:decide (w.length = 2) = ok
 have hok:decide ((w.length:Int) = 2) = ok:=by rw [← hok];congr 1;simp only [eq_iff_iff];omega
 dsimp only [R8,Z9]
 refine J1 Tryz.func69 104 fun E h0=>?_
 repeat' ((first | (refine A3 (x:=U6) g0 (by omega) ?_) | (refine A3 (x:=nm) g1 (by omega) ?_) | (refine G2 19 ?_;refine K5 (id:=19) (σ':=⟨[(0, .ref 0 0),(5, .iptr (C0 (⟨nm,1,0,0,0,[],false⟩:C5))),(6, .b (decide ((w.length:Int) = 2)))],4,[(0,some (.box [.row 1 0 ls.length, .row 2 0 cs.length, .row 3 0 rs.length, .i 1])),(1,some (.row K3 2 0 (ls.map D3))),(2,some (.row J2 7 0 (cs.map C0))),(3,some (.row I3 1 0 (rs.map D2)))]⟩) (C3 (B0 (σ':=⟨[(0, .ref 0 0),(5, .ref 4 0),(6, .b (decide ((w.length:Int) = 2)))],5,[(0,some (.box [.row 1 0 ls.length, .row 2 0 cs.length, .row 3 0 rs.length, .i 1])),(1,some (.row K3 2 0 (ls.map D3))),(2,some (.row J2 7 0 (cs.map C0))),(3,some (.row I3 1 0 (rs.map D2))),(4,some (.box [.str nm, .i 1, .i 0, .i 0, .i 0, .v (.slice none 0 0), .b false]))]⟩) h0 rfl ⟨rfl,rfl,rfl,trivial⟩ ⟨rfl,⟨_,rfl⟩,⟨_,rfl⟩,⟨_,rfl⟩,rfl,trivial⟩ rfl rfl rfl) (C3 (Ct 4 (C0 (⟨nm,1,0,0,0,[],false⟩:C5)) rfl ⟨.refl _, .refl _, .refl _, .refl _, .refl _, .nil 1, .refl _,trivial⟩) (B0 h0 rfl ⟨rfl,rfl,rfl,trivial⟩ ⟨rfl,⟨_,rfl⟩,⟨_,rfl⟩,⟨_,rfl⟩,trivial⟩ rfl rfl rfl))) ?_;refine G6 (id:=19) ⟨[(6, .b (decide ((w.length:Int) = 2)))],4,[(0,some (.box [.row 1 0 ls.length, .row 2 0 (cs ++ [(⟨nm,1,0,0,0,[],false⟩:C5)]).length, .row 3 0 rs.length, .i 1])),(1,some (.row K3 2 0 (ls.map D3))),(2,some (.row J2 7 0 ((cs ++ [(⟨nm,1,0,0,0,[],false⟩:C5)]).map C0))),(3,some (.row I3 1 0 (rs.map D2)))]⟩ ?_ ?_) |refine A4 ?_|refine S1 ?_|refine Z1 ?_|refine Z2 ?_|(refine And.intro ?_ ?_<;>intro h<;>try first|(exfalso;omega)|exact absurd rfl h)|refine Z3 ?_|refine Z4 ?_|intro el hel hbB|intro el hel|intro ex|refine Z5 ?_|(refine A9 ?_ ?_;exact ⟨by kernel_rfl,by decide⟩)|refine A8 ?_ ?_|exact A7|refine A6 ?_ ?_|exact A5|(refine A0 ?_ ?_ ?_;kernel_rfl;kernel_rfl)) <;> (try (conv=>whnf)))
 all_goals first
  | (exfalso;omega)
  | exact B0 h0 rfl ⟨rfl,trivial⟩ ⟨congrArg (fun z=>C6.box [.row 1 0 ls.length, .row 2 0 z, .row 3 0 rs.length, .i 1]) (by rw [List.length_append];rfl),⟨_,rfl⟩,⟨_,congrArg (C6.row J2 7 _) (by rw [List.map_append];rfl)⟩,⟨_,rfl⟩,trivial⟩ rfl rfl rfl
  | exact B0 h0 rfl ⟨rfl,rfl,rfl,trivial⟩ ⟨rfl,⟨_,rfl⟩,⟨_,rfl⟩,⟨_,rfl⟩,congrArg (fun z=>C6.box [.str nm, .i 3, .i 0, .i a, .i b, .sl 1 z, .b (decide (w4 = H2))]) hsl,trivial⟩ rfl rfl rfl
  | exact D5 (B0 h0 rfl ⟨rfl,trivial⟩ ⟨rfl,⟨_,rfl⟩,⟨_,rfl⟩,⟨_,rfl⟩,trivial⟩ rfl rfl rfl)
  | contradiction
  | (exfalso;rcases h3 with g | ⟨g1,g2⟩;(omega);first | exact (show ¬ ¬ w4 = G8 by assumption) g1 | exact (show ¬ ¬ w4 = H2 by assumption) g2)
  | (exfalso;rcases h3 with g | g;exact (show ¬ w4 = G8 by assumption) g;exact (show ¬ w4 = H2 by assumption) g)
  | exact D5 (B0 h0 rfl ⟨congrArg (fun z=>some (AV.b z)) hok,trivial⟩ ⟨rfl,⟨_,rfl⟩,⟨_,rfl⟩,⟨_,rfl⟩,trivial⟩ rfl rfl rfl)
set_option maxHeartbeats 16000000 in
theorem UM (r:F5) (w:List (List UInt8)) (hn:r.cols.length ≤ 20000) (hst:¬ r.st = 2) (hl:¬ w.length < 2) (h1:B6 w 0 = O2) (h3:¬ w.length = 3):B9 Tryz.prog 69 4 (R8 r) [.ref 0 0, .sl 1 (w.map C1)] 4 (R8 ⟨r.lists,r.cols ++ [⟨B6 w 1,2,0,0,0,[],false⟩],r.rows,1⟩) (.b false):=by
 obtain ⟨ls,cs,rs,st⟩:=r
 dsimp only at *
 have g0:=C8 (ws:=w) (i:=0) (by omega)
 have g1:=C8 (ws:=w) (i:=1) (by omega)
 rw [h1] at g0
 clear h1
 generalize B6 w 1 = nm at *
 dsimp only [R8,Z9]
 refine J1 Tryz.func69 104 fun E h0=>?_
 repeat' ((first | (refine A3 (x:=O2) g0 (by omega) ?_) | (refine A3 (x:=nm) g1 (by omega) ?_) | (refine G2 19 ?_;refine K5 (id:=19) (σ':=⟨[(0, .ref 0 0),(5, .iptr (C0 (⟨nm,2,0,0,0,[],false⟩:C5))),(6, .b false)],4,[(0,some (.box [.row 1 0 ls.length, .row 2 0 cs.length, .row 3 0 rs.length, .i 1])),(1,some (.row K3 2 0 (ls.map D3))),(2,some (.row J2 7 0 (cs.map C0))),(3,some (.row I3 1 0 (rs.map D2)))]⟩) (C3 (B0 (σ':=⟨[(0, .ref 0 0),(5, .ref 4 0),(6, .b false)],5,[(0,some (.box [.row 1 0 ls.length, .row 2 0 cs.length, .row 3 0 rs.length, .i 1])),(1,some (.row K3 2 0 (ls.map D3))),(2,some (.row J2 7 0 (cs.map C0))),(3,some (.row I3 1 0 (rs.map D2))),(4,some (.box [.str nm, .i 2, .i 0, .i 0, .i 0, .v (.slice none 0 0), .b false]))]⟩) h0 rfl ⟨rfl,rfl,rfl,trivial⟩ ⟨rfl,⟨_,rfl⟩,⟨_,rfl⟩,⟨_,rfl⟩,rfl,trivial⟩ rfl rfl rfl) (C3 (Ct 4 (C0 (⟨nm,2,0,0,0,[],false⟩:C5)) rfl ⟨.refl _, .refl _, .refl _, .refl _, .refl _, .nil 1, .refl _,trivial⟩) (B0 h0 rfl ⟨rfl,rfl,rfl,trivial⟩ ⟨rfl,⟨_,rfl⟩,⟨_,rfl⟩,⟨_,rfl⟩,trivial⟩ rfl rfl rfl))) ?_;refine G6 (id:=19) ⟨[(6, .b false)],4,[(0,some (.box [.row 1 0 ls.length, .row 2 0 (cs ++ [(⟨nm,2,0,0,0,[],false⟩:C5)]).length, .row 3 0 rs.length, .i 1])),(1,some (.row K3 2 0 (ls.map D3))),(2,some (.row J2 7 0 ((cs ++ [(⟨nm,2,0,0,0,[],false⟩:C5)]).map C0))),(3,some (.row I3 1 0 (rs.map D2)))]⟩ ?_ ?_) |refine A4 ?_|refine S1 ?_|refine Z1 ?_|refine Z2 ?_|(refine And.intro ?_ ?_<;>intro h<;>try first|(exfalso;omega)|exact absurd rfl h)|refine Z3 ?_|refine Z4 ?_|intro el hel hbB|intro el hel|intro ex|refine Z5 ?_|(refine A9 ?_ ?_;exact ⟨by kernel_rfl,by decide⟩)|refine A8 ?_ ?_|exact A7|refine A6 ?_ ?_|exact A5|(refine A0 ?_ ?_ ?_;kernel_rfl;kernel_rfl)) <;> (try (conv=>whnf)))
 all_goals first
  | (exfalso;omega)
  | exact B0 h0 rfl ⟨rfl,trivial⟩ ⟨congrArg (fun z=>C6.box [.row 1 0 ls.length, .row 2 0 z, .row 3 0 rs.length, .i 1]) (by rw [List.length_append];rfl),⟨_,rfl⟩,⟨_,congrArg (C6.row J2 7 _) (by rw [List.map_append];rfl)⟩,⟨_,rfl⟩,trivial⟩ rfl rfl rfl
  | exact B0 h0 rfl ⟨rfl,rfl,rfl,trivial⟩ ⟨rfl,⟨_,rfl⟩,⟨_,rfl⟩,⟨_,rfl⟩,congrArg (fun z=>C6.box [.str nm, .i 3, .i 0, .i a, .i b, .sl 1 z, .b (decide (w4 = H2))]) hsl,trivial⟩ rfl rfl rfl
  | exact D5 (B0 h0 rfl ⟨rfl,trivial⟩ ⟨rfl,⟨_,rfl⟩,⟨_,rfl⟩,⟨_,rfl⟩,trivial⟩ rfl rfl rfl)
  | contradiction
  | (exfalso;rcases h3 with g | ⟨g1,g2⟩;(omega);first | exact (show ¬ ¬ w4 = G8 by assumption) g1 | exact (show ¬ ¬ w4 = H2 by assumption) g2)
  | (exfalso;rcases h3 with g | g;exact (show ¬ w4 = G8 by assumption) g;exact (show ¬ w4 = H2 by assumption) g)
  | exact D5 (B0 h0 rfl ⟨congrArg (fun z=>some (AV.b z)) hok,trivial⟩ ⟨rfl,⟨_,rfl⟩,⟨_,rfl⟩,⟨_,rfl⟩,trivial⟩ rfl rfl rfl)
set_option maxHeartbeats 16000000 in
theorem Wb (r:F5) (w:List (List UInt8)) (hn:r.cols.length ≤ 20000) (hst:¬ r.st = 2) (h1:B6 w 0 = O2) (h3:w.length = 3) (hz:(B6 w 2).length ≤ 20000):B9 Tryz.prog 69 4 (R8 r) [.ref 0 0, .sl 1 (w.map C1)] 4 (R8 ⟨r.lists,r.cols ++ [⟨B6 w 1,2,(H4 (B6 w 2)).1,0,0,[],false⟩],r.rows,1⟩) (.b (H4 (B6 w 2)).2):=by
 obtain ⟨ls,cs,rs,st⟩:=r
 dsimp only at *
 have g0:=C8 (ws:=w) (i:=0) (by omega)
 have g1:=C8 (ws:=w) (i:=1) (by omega)
 have g2:=C8 (ws:=w) (i:=2) (by omega)
 have hq:=x9 (B6 w 2) (by omega)
 rw [h1] at g0
 clear h1
 generalize B6 w 1 = nm at *
 generalize B6 w 2 = z at *
 generalize H4 z = q at *
 obtain ⟨n,ok⟩:=q
 dsimp only at hq ⊢
 dsimp only [R8,Z9]
 refine J1 Tryz.func69 104 fun E h0=>?_
 repeat' ((first | (refine A3 (x:=O2) g0 (by omega) ?_) | (refine A3 (x:=nm) g1 (by omega) ?_) | (refine A3 (x:=z) g2 (by omega) ?_) | refine B2 hq ?_ | (refine G2 19 ?_;refine K5 (id:=19) (σ':=⟨[(0, .ref 0 0),(5, .iptr (C0 (⟨nm,2,n,0,0,[],false⟩:C5))),(6, .b ok)],4,[(0,some (.box [.row 1 0 ls.length, .row 2 0 cs.length, .row 3 0 rs.length, .i 1])),(1,some (.row K3 2 0 (ls.map D3))),(2,some (.row J2 7 0 (cs.map C0))),(3,some (.row I3 1 0 (rs.map D2)))]⟩) (C3 (B0 (σ':=⟨[(0, .ref 0 0),(5, .ref 4 0),(6, .b ok)],5,[(0,some (.box [.row 1 0 ls.length, .row 2 0 cs.length, .row 3 0 rs.length, .i 1])),(1,some (.row K3 2 0 (ls.map D3))),(2,some (.row J2 7 0 (cs.map C0))),(3,some (.row I3 1 0 (rs.map D2))),(4,some (.box [.str nm, .i 2, .i n, .i 0, .i 0, .v (.slice none 0 0), .b false]))]⟩) h0 rfl ⟨rfl,rfl,rfl,trivial⟩ ⟨rfl,⟨_,rfl⟩,⟨_,rfl⟩,⟨_,rfl⟩,rfl,trivial⟩ rfl rfl rfl) (C3 (Ct 4 (C0 (⟨nm,2,n,0,0,[],false⟩:C5)) rfl ⟨.refl _, .refl _, .refl _, .refl _, .refl _, .nil 1, .refl _,trivial⟩) (B0 h0 rfl ⟨rfl,rfl,rfl,trivial⟩ ⟨rfl,⟨_,rfl⟩,⟨_,rfl⟩,⟨_,rfl⟩,trivial⟩ rfl rfl rfl))) ?_;refine G6 (id:=19) ⟨[(6, .b ok)],4,[(0,some (.box [.row 1 0 ls.length, .row 2 0 (cs ++ [(⟨nm,2,n,0,0,[],false⟩:C5)]).length, .row 3 0 rs.length, .i 1])),(1,some (.row K3 2 0 (ls.map D3))),(2,some (.row J2 7 0 ((cs ++ [(⟨nm,2,n,0,0,[],false⟩:C5)]).map C0))),(3,some (.row I3 1 0 (rs.map D2)))]⟩ ?_ ?_) |refine A4 ?_|refine S1 ?_|refine Z1 ?_|refine Z2 ?_|(refine And.intro ?_ ?_<;>intro h<;>try first|(exfalso;omega)|exact absurd rfl h)|refine Z3 ?_|refine Z4 ?_|intro el hel hbB|intro el hel|intro ex|refine Z5 ?_|(refine A9 ?_ ?_;exact ⟨by kernel_rfl,by decide⟩)|refine A8 ?_ ?_|exact A7|refine A6 ?_ ?_|exact A5|(refine A0 ?_ ?_ ?_;kernel_rfl;kernel_rfl)) <;> (try (conv=>whnf)))
 all_goals first
  | (exfalso;omega)
  | exact B0 h0 rfl ⟨rfl,trivial⟩ ⟨congrArg (fun z=>C6.box [.row 1 0 ls.length, .row 2 0 z, .row 3 0 rs.length, .i 1]) (by rw [List.length_append];rfl),⟨_,rfl⟩,⟨_,congrArg (C6.row J2 7 _) (by rw [List.map_append];rfl)⟩,⟨_,rfl⟩,trivial⟩ rfl rfl rfl
  | exact B0 h0 rfl ⟨rfl,rfl,rfl,trivial⟩ ⟨rfl,⟨_,rfl⟩,⟨_,rfl⟩,⟨_,rfl⟩,congrArg (fun z=>C6.box [.str nm, .i 3, .i 0, .i a, .i b, .sl 1 z, .b (decide (w4 = H2))]) hsl,trivial⟩ rfl rfl rfl
  | exact D5 (B0 h0 rfl ⟨rfl,trivial⟩ ⟨rfl,⟨_,rfl⟩,⟨_,rfl⟩,⟨_,rfl⟩,trivial⟩ rfl rfl rfl)
  | contradiction
  | (exfalso;rcases h3 with g | ⟨g1,g2⟩;(omega);first | exact (show ¬ ¬ w4 = G8 by assumption) g1 | exact (show ¬ ¬ w4 = H2 by assumption) g2)
  | (exfalso;rcases h3 with g | g;exact (show ¬ w4 = G8 by assumption) g;exact (show ¬ w4 = H2 by assumption) g)
  | exact D5 (B0 h0 rfl ⟨congrArg (fun z=>some (AV.b z)) hok,trivial⟩ ⟨rfl,⟨_,rfl⟩,⟨_,rfl⟩,⟨_,rfl⟩,trivial⟩ rfl rfl rfl)
end Go.Proofs.YtiphlhoclaogjabGreatDoor
