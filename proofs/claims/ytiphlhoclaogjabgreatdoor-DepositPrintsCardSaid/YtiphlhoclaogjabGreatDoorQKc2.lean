/- Chapter 3: the program's reader of files: columns. -/
import Derived.Test.YtiphlhoclaogjabGreatDoorQAvI
import Derived.Test.YtiphlhoclaogjabGreatDoorQF7
import Derived.Test.YtiphlhoclaogjabGreatDoorQB12
set_option linter.unusedVariables false
set_option linter.unnecessarySimpa false
set_option linter.unusedSimpArgs false
namespace Go.Proofs.YtiphlhoclaogjabGreatDoor
open Go Go.Av
attribute [local irreducible] D1 B5 D5 D3 DQ D7 E0 St.le B3 B6
set_option maxRecDepth 100000
abbrev Yl:Nat:=9
set_option maxHeartbeats 4000000 in
theorem Pr (n:Nat) (h1:0 < n) (h2:n ≤ 1000000):B6 Tryz.prog 124 0 [] [.v (.slice none 0 0), .i n] 1 [(0,some (.row Yl 1 0 []))] (.row 0 0 0):=by
 refine M6 Tryz.func124 27 fun E h0=>?_
 repeat' ((first | refine Mh rfl rfl ?_ | refine JF rfl rfl rfl rfl ?_ | refine FZ rfl rfl (by omega) (by omega) (by rfl) (by rfl) (by omega) (by rfl) rfl ?_ | refine JC rfl rfl rfl rfl (by decide) (by decide) (by omega) rfl ?_ |refine A1 ?_|refine S1 ?_|refine Z1 ?_|refine Z2 ?_|(refine And.intro ?_ ?_<;>intro h<;>try first|(exfalso;omega)|exact absurd rfl h)|refine Z3 ?_|refine Z4 ?_|intro el hel hbB|intro el hel|intro ex|refine Z5 ?_|(refine A6 ?_ ?_;exact ⟨by kernel_rfl,by decide⟩)|refine A5 ?_ ?_|exact A4|refine A3 ?_ ?_|exact A2|(refine A0 ?_ ?_ ?_;kernel_rfl;kernel_rfl)) <;> (try (conv=>whnf)))
 all_goals first
  | (exfalso;omega)
  | exact C9 (C7 (UW (d:=4) rfl rfl (by decide) (by decide)) (A8 h0 rfl ⟨rfl,trivial⟩ ⟨⟨_,rfl⟩,trivial⟩ rfl rfl rfl))
abbrev Vq (l:List (List UInt8)):List AV:=[.sl 1 (l.map E2)]
theorem KE {α:Type} {ws:List (List α)} {k:Nat} {x:List α} (h:ws[k]? = some x):(ws.take (k + 1)).flatten = (ws.take k).flatten ++ x:=by
 rw [R9 h,List.flatten_append];simp
theorem Mi {α:Type} (ws:List (List α)) (k:Nat):(ws.take k).flatten.length ≤ ws.flatten.length:=by
 have:ws.flatten = (ws.take k).flatten ++ (ws.drop k).flatten:=by rw [← List.flatten_append,List.take_append_drop]
 rw [this,List.length_append];omega
set_option maxHeartbeats 8000000 in
theorem Ew (ws:List (List (List UInt8))) (h1:0 < ws.flatten.length) (h2:ws.flatten.length ≤ 100000) (hn:ws.length ≤ 1000):B3 Tryz.prog 97 [.sl 1 (ws.map Vq)] (.sl 1 (ws.flatten.map E2)):=by
 have hg:=Pr ws.flatten.length h1 (by omega)
 have hle:=Mi ws
 refine F3 Tryz.func97 36 fun hrd E h0=>?_
 clear hrd
 repeat' ((first|refine A1 ?_|refine S1 ?_|refine Z1 ?_|refine Z2 ?_|(refine And.intro ?_ ?_<;>intro h<;>try first|(exfalso;omega)|exact absurd rfl h)|refine Z3 ?_|refine Z4 ?_|intro el hel hbB|intro el hel|intro ex|refine Z5 ?_|(refine A6 ?_ ?_;exact ⟨by kernel_rfl,by decide⟩)|refine A5 ?_ ?_|exact A4|refine A3 ?_ ?_|exact A2|(refine A0 ?_ ?_ ?_;kernel_rfl;kernel_rfl)) <;> (try (conv=>whnf)))
 refine C5 (ι:=Nat) (fun k=>⟨[(0, .sl 1 (ws.map Vq)),(3, .i (ws.take k).flatten.length),(9, .sl 1 (ws.map Vq)),(10, .i ws.length),(11, .i k)],0,[]⟩) (fun k=>k ≤ ws.length) (fun k=>ws.length - k) 0 (Nat.zero_le _) (A8 h0 rfl ⟨rfl,rfl,rfl,rfl,rfl,trivial⟩ trivial rfl rfl rfl) (fun k hk=>?_)
 by_cases hlt:k < ws.length
 ·obtain ⟨x,hx⟩:∃ x,ws[k]? = some x:=⟨_,List.getElem?_eq_getElem hlt⟩
  have hst:=KE hx
  have h3:=hle (k + 1)
  have h4:((ws.take k).flatten.length:Int) + x.length = ((ws.take (k + 1)).flatten.length:Nat):=by rw [hst,List.length_append];omega
  rw [hst,List.length_append] at h3
  repeat' ((first | (refine A7 (x:=x) hx (by omega) ?_) |refine A1 ?_|refine S1 ?_|refine Z1 ?_|refine Z2 ?_|(refine And.intro ?_ ?_<;>intro h<;>try first|(exfalso;omega)|exact absurd rfl h)|refine Z3 ?_|refine Z4 ?_|intro el hel hbB|intro el hel|intro ex|refine Z5 ?_|(refine A6 ?_ ?_;exact ⟨by kernel_rfl,by decide⟩)|refine A5 ?_ ?_|exact A4|refine A3 ?_ ?_|exact A2|(refine A0 ?_ ?_ ?_;kernel_rfl;kernel_rfl)) <;> (try (conv=>whnf)))
  all_goals first
   | (exfalso;omega)
   | exact ⟨k + 1,by omega,by omega,A8 h0 rfl ⟨rfl,congrArg (fun z=>some (AV.i z)) h4,rfl,rfl,rfl,trivial⟩ trivial rfl rfl rfl⟩
 ·obtain rfl:k = ws.length:=by omega
  rw [List.take_length]
  repeat' ((first | refine X8 [] [] hg rfl rfl rfl rfl rfl trivial rfl rfl rfl rfl rfl ?_ |refine A1 ?_|refine S1 ?_|refine Z1 ?_|refine Z2 ?_|(refine And.intro ?_ ?_<;>intro h<;>try first|(exfalso;omega)|exact absurd rfl h)|refine Z3 ?_|refine Z4 ?_|intro el hel hbB|intro el hel|intro ex|refine Z5 ?_|(refine A6 ?_ ?_;exact ⟨by kernel_rfl,by decide⟩)|refine A5 ?_ ?_|exact A4|refine A3 ?_ ?_|exact A2|(refine A0 ?_ ?_ ?_;kernel_rfl;kernel_rfl)) <;> (try (conv=>whnf)))
  all_goals first
   | (exfalso;omega)
   | skip
  refine C5 (ι:=Nat) (fun k=>⟨[(6, .row 0 0 (ws.take k).flatten.length),(25, .sl 1 (ws.map Vq)),(26, .i ws.length),(27, .i k)],1,[(0,some (.row Yl 1 0 ((ws.take k).flatten.map E2)))]⟩) (fun k=>k ≤ ws.length) (fun k=>ws.length - k) 0 (Nat.zero_le _) (A8 h0 rfl ⟨rfl,rfl,rfl,rfl,trivial⟩ ⟨⟨_,rfl⟩,trivial⟩ rfl rfl rfl) (fun k hk=>?_)
  by_cases hlt:k < ws.length
  ·obtain ⟨x,hx⟩:∃ x,ws[k]? = some x:=⟨_,List.getElem?_eq_getElem hlt⟩
   have hst:=KE hx
   have h3:=hle (k + 1)
   have e1:(ws.take k).flatten.length + x.length = (ws.take (k + 1)).flatten.length:=by rw [hst,List.length_append]
   rw [hst,List.length_append] at h3
   repeat' ((first | (refine A7 (x:=x) hx (by omega) ?_) |refine A1 ?_|refine S1 ?_|refine Z1 ?_|refine Z2 ?_|(refine And.intro ?_ ?_<;>intro h<;>try first|(exfalso;omega)|exact absurd rfl h)|refine Z3 ?_|refine Z4 ?_|intro el hel hbB|intro el hel|intro ex|refine Z5 ?_|(refine A6 ?_ ?_;exact ⟨by kernel_rfl,by decide⟩)|refine A5 ?_ ?_|exact A4|refine A3 ?_ ?_|exact A2|(refine A0 ?_ ?_ ?_;kernel_rfl;kernel_rfl)) <;> (try (conv=>whnf)))
   all_goals first
    | (exfalso;omega)
    | exact ⟨k + 1,by omega,by omega,A8 h0 rfl ⟨congrArg (fun z=>some (AV.row 0 _ z)) (by rw [← e1,List.length_map]),rfl,rfl,rfl,trivial⟩ ⟨⟨_,congrArg (C0.row Yl 1 _) (by rw [hst,List.map_append])⟩,trivial⟩ rfl rfl rfl⟩
  ·obtain rfl:k = ws.length:=by omega
   rw [List.take_length]
   repeat' ((first|refine A1 ?_|refine S1 ?_|refine Z1 ?_|refine Z2 ?_|(refine And.intro ?_ ?_<;>intro h<;>try first|(exfalso;omega)|exact absurd rfl h)|refine Z3 ?_|refine Z4 ?_|intro el hel hbB|intro el hel|intro ex|refine Z5 ?_|(refine A6 ?_ ?_;exact ⟨by kernel_rfl,by decide⟩)|refine A5 ?_ ?_|exact A4|refine A3 ?_ ?_|exact A2|(refine A0 ?_ ?_ ?_;kernel_rfl;kernel_rfl)) <;> (try (conv=>whnf)))
   all_goals first
    | (exfalso;omega)
    | exact B2 rfl rfl
set_option maxHeartbeats 16000000 in
theorem Ym (r:D6) (w:List (List UInt8)) (h:r.st = 2 ∨ w.length < 2):B6 Tryz.prog 69 4 (R4 r) [.ref 0 0, .sl 1 (w.map E2)] 4 (R4 r) (.b false):=by
 obtain ⟨ls,cs,rs,st⟩:=r
 dsimp only at *
 dsimp only [R4,Z7]
 refine M6 Tryz.func69 104 fun E h0=>?_
 repeat' ((first|refine A1 ?_|refine S1 ?_|refine Z1 ?_|refine Z2 ?_|(refine And.intro ?_ ?_<;>intro h<;>try first|(exfalso;omega)|exact absurd rfl h)|refine Z3 ?_|refine Z4 ?_|intro el hel hbB|intro el hel|intro ex|refine Z5 ?_|(refine A6 ?_ ?_;exact ⟨by kernel_rfl,by decide⟩)|refine A5 ?_ ?_|exact A4|refine A3 ?_ ?_|exact A2|(refine A0 ?_ ?_ ?_;kernel_rfl;kernel_rfl)) <;> (try (conv=>whnf)))
 all_goals first
  | (exfalso;omega)
  | exact A8 h0 rfl ⟨rfl,trivial⟩ ⟨congrArg (fun z=>C0.box [.row 1 0 ls.length, .row 2 0 z, .row 3 0 rs.length, .i 1]) (by rw [List.length_append];rfl),⟨_,rfl⟩,⟨_,congrArg (C0.row O6 7 _) (by rw [List.map_append];rfl)⟩,⟨_,rfl⟩,trivial⟩ rfl rfl rfl
  | exact A8 h0 rfl ⟨rfl,rfl,rfl,trivial⟩ ⟨rfl,⟨_,rfl⟩,⟨_,rfl⟩,⟨_,rfl⟩,congrArg (fun z=>C0.box [.str nm, .i 3, .i 0, .i a, .i b, .sl 1 z, .b (decide (w4 = G2))]) hsl,trivial⟩ rfl rfl rfl
  | exact C9 (A8 h0 rfl ⟨rfl,trivial⟩ ⟨rfl,⟨_,rfl⟩,⟨_,rfl⟩,⟨_,rfl⟩,trivial⟩ rfl rfl rfl)
  | contradiction
  | (exfalso;rcases h3 with g | ⟨g1,g2⟩;(omega);first | exact (show ¬ ¬ w4 = F5 by assumption) g1 | exact (show ¬ ¬ w4 = G2 by assumption) g2)
  | (exfalso;rcases h3 with g | g;exact (show ¬ w4 = F5 by assumption) g;exact (show ¬ w4 = G2 by assumption) g)
  | exact C9 (A8 h0 rfl ⟨congrArg (fun z=>some (AV.b z)) hok,trivial⟩ ⟨rfl,⟨_,rfl⟩,⟨_,rfl⟩,⟨_,rfl⟩,trivial⟩ rfl rfl rfl)
set_option maxHeartbeats 16000000 in
theorem SH (r:D6) (w:List (List UInt8)) (hst:¬ r.st = 2) (hl:¬ w.length < 2) (h1:¬ B9 w 0 = W2) (h2:¬ B9 w 0 = M3) (h3:w.length < 6 ∨ ¬ B9 w 4 = F5 ∧ ¬ B9 w 4 = G2):B6 Tryz.prog 69 4 (R4 r) [.ref 0 0, .sl 1 (w.map E2)] 4 (R4 ⟨r.lists,r.cols,r.rows,1⟩) (.b false):=by
 obtain ⟨ls,cs,rs,st⟩:=r
 dsimp only at *
 have g0:=H1 (ws:=w) (i:=0) (by omega)
 have g1:=H1 (ws:=w) (i:=1) (by omega)
 have g4:4 < w.length → w[4]? = some (B9 w 4):=fun h=>H1 h
 generalize B9 w 0 = w0 at *
 generalize B9 w 1 = nm at *
 generalize B9 w 4 = w4 at *
 dsimp only [R4,Z7]
 refine M6 Tryz.func69 104 fun E h0=>?_
 repeat' ((first | (refine A7 (x:=w0) g0 (by omega) ?_) | (refine A7 (x:=nm) g1 (by omega) ?_) | (refine A7 (x:=w4) (g4 (by omega)) (by omega) ?_) |refine A1 ?_|refine S1 ?_|refine Z1 ?_|refine Z2 ?_|(refine And.intro ?_ ?_<;>intro h<;>try first|(exfalso;omega)|exact absurd rfl h)|refine Z3 ?_|refine Z4 ?_|intro el hel hbB|intro el hel|intro ex|refine Z5 ?_|(refine A6 ?_ ?_;exact ⟨by kernel_rfl,by decide⟩)|refine A5 ?_ ?_|exact A4|refine A3 ?_ ?_|exact A2|(refine A0 ?_ ?_ ?_;kernel_rfl;kernel_rfl)) <;> (try (conv=>whnf)))
 all_goals first
  | (exfalso;omega)
  | exact A8 h0 rfl ⟨rfl,trivial⟩ ⟨congrArg (fun z=>C0.box [.row 1 0 ls.length, .row 2 0 z, .row 3 0 rs.length, .i 1]) (by rw [List.length_append];rfl),⟨_,rfl⟩,⟨_,congrArg (C0.row O6 7 _) (by rw [List.map_append];rfl)⟩,⟨_,rfl⟩,trivial⟩ rfl rfl rfl
  | exact A8 h0 rfl ⟨rfl,rfl,rfl,trivial⟩ ⟨rfl,⟨_,rfl⟩,⟨_,rfl⟩,⟨_,rfl⟩,congrArg (fun z=>C0.box [.str nm, .i 3, .i 0, .i a, .i b, .sl 1 z, .b (decide (w4 = G2))]) hsl,trivial⟩ rfl rfl rfl
  | exact C9 (A8 h0 rfl ⟨rfl,trivial⟩ ⟨rfl,⟨_,rfl⟩,⟨_,rfl⟩,⟨_,rfl⟩,trivial⟩ rfl rfl rfl)
  | contradiction
  | (exfalso;rcases h3 with g | ⟨g1,g2⟩;(omega);first | exact (show ¬ ¬ w4 = F5 by assumption) g1 | exact (show ¬ ¬ w4 = G2 by assumption) g2)
  | (exfalso;rcases h3 with g | g;exact (show ¬ w4 = F5 by assumption) g;exact (show ¬ w4 = G2 by assumption) g)
  | exact C9 (A8 h0 rfl ⟨congrArg (fun z=>some (AV.b z)) hok,trivial⟩ ⟨rfl,⟨_,rfl⟩,⟨_,rfl⟩,⟨_,rfl⟩,trivial⟩ rfl rfl rfl)
set_option maxHeartbeats 16000000 in
theorem Yn (r:D6) (w:List (List UInt8)) (hn:r.cols.length ≤ 20000) (hst:¬ r.st = 2) (hl:¬ w.length < 2) (h1:B9 w 0 = W2):B6 Tryz.prog 69 4 (R4 r) [.ref 0 0, .sl 1 (w.map E2)] 4 (R4 ⟨r.lists,r.cols ++ [⟨B9 w 1,1,0,0,0,[],false⟩],r.rows,1⟩) (.b (decide (w.length = 2))):=by
 obtain ⟨ls,cs,rs,st⟩:=r
 dsimp only at *
 have g0:=H1 (ws:=w) (i:=0) (by omega)
 have g1:=H1 (ws:=w) (i:=1) (by omega)
 rw [h1] at g0
 clear h1
 generalize B9 w 1 = nm at *
 generalize hok:decide (w.length = 2) = ok
 have hok:decide ((w.length:Int) = 2) = ok:=by rw [← hok];congr 1;simp only [eq_iff_iff];omega
 dsimp only [R4,Z7]
 refine M6 Tryz.func69 104 fun E h0=>?_
 repeat' ((first | (refine A7 (x:=W2) g0 (by omega) ?_) | (refine A7 (x:=nm) g1 (by omega) ?_) | (refine G1 19 ?_;refine K1 (id:=19) (σ':=⟨[(0, .ref 0 0),(5, .iptr (C2 (⟨nm,1,0,0,0,[],false⟩:C1))),(6, .b (decide ((w.length:Int) = 2)))],4,[(0,some (.box [.row 1 0 ls.length, .row 2 0 cs.length, .row 3 0 rs.length, .i 1])),(1,some (.row N5 2 0 (ls.map F2))),(2,some (.row O6 7 0 (cs.map C2))),(3,some (.row S7 1 0 (rs.map D8)))]⟩) (C7 (A8 (σ':=⟨[(0, .ref 0 0),(5, .ref 4 0),(6, .b (decide ((w.length:Int) = 2)))],5,[(0,some (.box [.row 1 0 ls.length, .row 2 0 cs.length, .row 3 0 rs.length, .i 1])),(1,some (.row N5 2 0 (ls.map F2))),(2,some (.row O6 7 0 (cs.map C2))),(3,some (.row S7 1 0 (rs.map D8))),(4,some (.box [.str nm, .i 1, .i 0, .i 0, .i 0, .v (.slice none 0 0), .b false]))]⟩) h0 rfl ⟨rfl,rfl,rfl,trivial⟩ ⟨rfl,⟨_,rfl⟩,⟨_,rfl⟩,⟨_,rfl⟩,rfl,trivial⟩ rfl rfl rfl) (C7 (Cy 4 (C2 (⟨nm,1,0,0,0,[],false⟩:C1)) rfl ⟨.refl _, .refl _, .refl _, .refl _, .refl _, .nil 1, .refl _,trivial⟩) (A8 h0 rfl ⟨rfl,rfl,rfl,trivial⟩ ⟨rfl,⟨_,rfl⟩,⟨_,rfl⟩,⟨_,rfl⟩,trivial⟩ rfl rfl rfl))) ?_;refine I3 (id:=19) ⟨[(6, .b (decide ((w.length:Int) = 2)))],4,[(0,some (.box [.row 1 0 ls.length, .row 2 0 (cs ++ [(⟨nm,1,0,0,0,[],false⟩:C1)]).length, .row 3 0 rs.length, .i 1])),(1,some (.row N5 2 0 (ls.map F2))),(2,some (.row O6 7 0 ((cs ++ [(⟨nm,1,0,0,0,[],false⟩:C1)]).map C2))),(3,some (.row S7 1 0 (rs.map D8)))]⟩ ?_ ?_) |refine A1 ?_|refine S1 ?_|refine Z1 ?_|refine Z2 ?_|(refine And.intro ?_ ?_<;>intro h<;>try first|(exfalso;omega)|exact absurd rfl h)|refine Z3 ?_|refine Z4 ?_|intro el hel hbB|intro el hel|intro ex|refine Z5 ?_|(refine A6 ?_ ?_;exact ⟨by kernel_rfl,by decide⟩)|refine A5 ?_ ?_|exact A4|refine A3 ?_ ?_|exact A2|(refine A0 ?_ ?_ ?_;kernel_rfl;kernel_rfl)) <;> (try (conv=>whnf)))
 all_goals first
  | (exfalso;omega)
  | exact A8 h0 rfl ⟨rfl,trivial⟩ ⟨congrArg (fun z=>C0.box [.row 1 0 ls.length, .row 2 0 z, .row 3 0 rs.length, .i 1]) (by rw [List.length_append];rfl),⟨_,rfl⟩,⟨_,congrArg (C0.row O6 7 _) (by rw [List.map_append];rfl)⟩,⟨_,rfl⟩,trivial⟩ rfl rfl rfl
  | exact A8 h0 rfl ⟨rfl,rfl,rfl,trivial⟩ ⟨rfl,⟨_,rfl⟩,⟨_,rfl⟩,⟨_,rfl⟩,congrArg (fun z=>C0.box [.str nm, .i 3, .i 0, .i a, .i b, .sl 1 z, .b (decide (w4 = G2))]) hsl,trivial⟩ rfl rfl rfl
  | exact C9 (A8 h0 rfl ⟨rfl,trivial⟩ ⟨rfl,⟨_,rfl⟩,⟨_,rfl⟩,⟨_,rfl⟩,trivial⟩ rfl rfl rfl)
  | contradiction
  | (exfalso;rcases h3 with g | ⟨g1,g2⟩;(omega);first | exact (show ¬ ¬ w4 = F5 by assumption) g1 | exact (show ¬ ¬ w4 = G2 by assumption) g2)
  | (exfalso;rcases h3 with g | g;exact (show ¬ w4 = F5 by assumption) g;exact (show ¬ w4 = G2 by assumption) g)
  | exact C9 (A8 h0 rfl ⟨congrArg (fun z=>some (AV.b z)) hok,trivial⟩ ⟨rfl,⟨_,rfl⟩,⟨_,rfl⟩,⟨_,rfl⟩,trivial⟩ rfl rfl rfl)
set_option maxHeartbeats 16000000 in
theorem Up (r:D6) (w:List (List UInt8)) (hn:r.cols.length ≤ 20000) (hst:¬ r.st = 2) (hl:¬ w.length < 2) (h1:B9 w 0 = M3) (h3:¬ w.length = 3):B6 Tryz.prog 69 4 (R4 r) [.ref 0 0, .sl 1 (w.map E2)] 4 (R4 ⟨r.lists,r.cols ++ [⟨B9 w 1,2,0,0,0,[],false⟩],r.rows,1⟩) (.b false):=by
 obtain ⟨ls,cs,rs,st⟩:=r
 dsimp only at *
 have g0:=H1 (ws:=w) (i:=0) (by omega)
 have g1:=H1 (ws:=w) (i:=1) (by omega)
 rw [h1] at g0
 clear h1
 generalize B9 w 1 = nm at *
 dsimp only [R4,Z7]
 refine M6 Tryz.func69 104 fun E h0=>?_
 repeat' ((first | (refine A7 (x:=M3) g0 (by omega) ?_) | (refine A7 (x:=nm) g1 (by omega) ?_) | (refine G1 19 ?_;refine K1 (id:=19) (σ':=⟨[(0, .ref 0 0),(5, .iptr (C2 (⟨nm,2,0,0,0,[],false⟩:C1))),(6, .b false)],4,[(0,some (.box [.row 1 0 ls.length, .row 2 0 cs.length, .row 3 0 rs.length, .i 1])),(1,some (.row N5 2 0 (ls.map F2))),(2,some (.row O6 7 0 (cs.map C2))),(3,some (.row S7 1 0 (rs.map D8)))]⟩) (C7 (A8 (σ':=⟨[(0, .ref 0 0),(5, .ref 4 0),(6, .b false)],5,[(0,some (.box [.row 1 0 ls.length, .row 2 0 cs.length, .row 3 0 rs.length, .i 1])),(1,some (.row N5 2 0 (ls.map F2))),(2,some (.row O6 7 0 (cs.map C2))),(3,some (.row S7 1 0 (rs.map D8))),(4,some (.box [.str nm, .i 2, .i 0, .i 0, .i 0, .v (.slice none 0 0), .b false]))]⟩) h0 rfl ⟨rfl,rfl,rfl,trivial⟩ ⟨rfl,⟨_,rfl⟩,⟨_,rfl⟩,⟨_,rfl⟩,rfl,trivial⟩ rfl rfl rfl) (C7 (Cy 4 (C2 (⟨nm,2,0,0,0,[],false⟩:C1)) rfl ⟨.refl _, .refl _, .refl _, .refl _, .refl _, .nil 1, .refl _,trivial⟩) (A8 h0 rfl ⟨rfl,rfl,rfl,trivial⟩ ⟨rfl,⟨_,rfl⟩,⟨_,rfl⟩,⟨_,rfl⟩,trivial⟩ rfl rfl rfl))) ?_;refine I3 (id:=19) ⟨[(6, .b false)],4,[(0,some (.box [.row 1 0 ls.length, .row 2 0 (cs ++ [(⟨nm,2,0,0,0,[],false⟩:C1)]).length, .row 3 0 rs.length, .i 1])),(1,some (.row N5 2 0 (ls.map F2))),(2,some (.row O6 7 0 ((cs ++ [(⟨nm,2,0,0,0,[],false⟩:C1)]).map C2))),(3,some (.row S7 1 0 (rs.map D8)))]⟩ ?_ ?_) |refine A1 ?_|refine S1 ?_|refine Z1 ?_|refine Z2 ?_|(refine And.intro ?_ ?_<;>intro h<;>try first|(exfalso;omega)|exact absurd rfl h)|refine Z3 ?_|refine Z4 ?_|intro el hel hbB|intro el hel|intro ex|refine Z5 ?_|(refine A6 ?_ ?_;exact ⟨by kernel_rfl,by decide⟩)|refine A5 ?_ ?_|exact A4|refine A3 ?_ ?_|exact A2|(refine A0 ?_ ?_ ?_;kernel_rfl;kernel_rfl)) <;> (try (conv=>whnf)))
 all_goals first
  | (exfalso;omega)
  | exact A8 h0 rfl ⟨rfl,trivial⟩ ⟨congrArg (fun z=>C0.box [.row 1 0 ls.length, .row 2 0 z, .row 3 0 rs.length, .i 1]) (by rw [List.length_append];rfl),⟨_,rfl⟩,⟨_,congrArg (C0.row O6 7 _) (by rw [List.map_append];rfl)⟩,⟨_,rfl⟩,trivial⟩ rfl rfl rfl
  | exact A8 h0 rfl ⟨rfl,rfl,rfl,trivial⟩ ⟨rfl,⟨_,rfl⟩,⟨_,rfl⟩,⟨_,rfl⟩,congrArg (fun z=>C0.box [.str nm, .i 3, .i 0, .i a, .i b, .sl 1 z, .b (decide (w4 = G2))]) hsl,trivial⟩ rfl rfl rfl
  | exact C9 (A8 h0 rfl ⟨rfl,trivial⟩ ⟨rfl,⟨_,rfl⟩,⟨_,rfl⟩,⟨_,rfl⟩,trivial⟩ rfl rfl rfl)
  | contradiction
  | (exfalso;rcases h3 with g | ⟨g1,g2⟩;(omega);first | exact (show ¬ ¬ w4 = F5 by assumption) g1 | exact (show ¬ ¬ w4 = G2 by assumption) g2)
  | (exfalso;rcases h3 with g | g;exact (show ¬ w4 = F5 by assumption) g;exact (show ¬ w4 = G2 by assumption) g)
  | exact C9 (A8 h0 rfl ⟨congrArg (fun z=>some (AV.b z)) hok,trivial⟩ ⟨rfl,⟨_,rfl⟩,⟨_,rfl⟩,⟨_,rfl⟩,trivial⟩ rfl rfl rfl)
set_option maxHeartbeats 16000000 in
theorem XC (r:D6) (w:List (List UInt8)) (hn:r.cols.length ≤ 20000) (hst:¬ r.st = 2) (h1:B9 w 0 = M3) (h3:w.length = 3) (hz:(B9 w 2).length ≤ 20000):B6 Tryz.prog 69 4 (R4 r) [.ref 0 0, .sl 1 (w.map E2)] 4 (R4 ⟨r.lists,r.cols ++ [⟨B9 w 1,2,(H8 (B9 w 2)).1,0,0,[],false⟩],r.rows,1⟩) (.b (H8 (B9 w 2)).2):=by
 obtain ⟨ls,cs,rs,st⟩:=r
 dsimp only at *
 have g0:=H1 (ws:=w) (i:=0) (by omega)
 have g1:=H1 (ws:=w) (i:=1) (by omega)
 have g2:=H1 (ws:=w) (i:=2) (by omega)
 have hq:=y8 (B9 w 2) (by omega)
 rw [h1] at g0
 clear h1
 generalize B9 w 1 = nm at *
 generalize B9 w 2 = z at *
 generalize H8 z = q at *
 obtain ⟨n,ok⟩:=q
 dsimp only at hq ⊢
 dsimp only [R4,Z7]
 refine M6 Tryz.func69 104 fun E h0=>?_
 repeat' ((first | (refine A7 (x:=M3) g0 (by omega) ?_) | (refine A7 (x:=nm) g1 (by omega) ?_) | (refine A7 (x:=z) g2 (by omega) ?_) | refine A9 hq ?_ | (refine G1 19 ?_;refine K1 (id:=19) (σ':=⟨[(0, .ref 0 0),(5, .iptr (C2 (⟨nm,2,n,0,0,[],false⟩:C1))),(6, .b ok)],4,[(0,some (.box [.row 1 0 ls.length, .row 2 0 cs.length, .row 3 0 rs.length, .i 1])),(1,some (.row N5 2 0 (ls.map F2))),(2,some (.row O6 7 0 (cs.map C2))),(3,some (.row S7 1 0 (rs.map D8)))]⟩) (C7 (A8 (σ':=⟨[(0, .ref 0 0),(5, .ref 4 0),(6, .b ok)],5,[(0,some (.box [.row 1 0 ls.length, .row 2 0 cs.length, .row 3 0 rs.length, .i 1])),(1,some (.row N5 2 0 (ls.map F2))),(2,some (.row O6 7 0 (cs.map C2))),(3,some (.row S7 1 0 (rs.map D8))),(4,some (.box [.str nm, .i 2, .i n, .i 0, .i 0, .v (.slice none 0 0), .b false]))]⟩) h0 rfl ⟨rfl,rfl,rfl,trivial⟩ ⟨rfl,⟨_,rfl⟩,⟨_,rfl⟩,⟨_,rfl⟩,rfl,trivial⟩ rfl rfl rfl) (C7 (Cy 4 (C2 (⟨nm,2,n,0,0,[],false⟩:C1)) rfl ⟨.refl _, .refl _, .refl _, .refl _, .refl _, .nil 1, .refl _,trivial⟩) (A8 h0 rfl ⟨rfl,rfl,rfl,trivial⟩ ⟨rfl,⟨_,rfl⟩,⟨_,rfl⟩,⟨_,rfl⟩,trivial⟩ rfl rfl rfl))) ?_;refine I3 (id:=19) ⟨[(6, .b ok)],4,[(0,some (.box [.row 1 0 ls.length, .row 2 0 (cs ++ [(⟨nm,2,n,0,0,[],false⟩:C1)]).length, .row 3 0 rs.length, .i 1])),(1,some (.row N5 2 0 (ls.map F2))),(2,some (.row O6 7 0 ((cs ++ [(⟨nm,2,n,0,0,[],false⟩:C1)]).map C2))),(3,some (.row S7 1 0 (rs.map D8)))]⟩ ?_ ?_) |refine A1 ?_|refine S1 ?_|refine Z1 ?_|refine Z2 ?_|(refine And.intro ?_ ?_<;>intro h<;>try first|(exfalso;omega)|exact absurd rfl h)|refine Z3 ?_|refine Z4 ?_|intro el hel hbB|intro el hel|intro ex|refine Z5 ?_|(refine A6 ?_ ?_;exact ⟨by kernel_rfl,by decide⟩)|refine A5 ?_ ?_|exact A4|refine A3 ?_ ?_|exact A2|(refine A0 ?_ ?_ ?_;kernel_rfl;kernel_rfl)) <;> (try (conv=>whnf)))
 all_goals first
  | (exfalso;omega)
  | exact A8 h0 rfl ⟨rfl,trivial⟩ ⟨congrArg (fun z=>C0.box [.row 1 0 ls.length, .row 2 0 z, .row 3 0 rs.length, .i 1]) (by rw [List.length_append];rfl),⟨_,rfl⟩,⟨_,congrArg (C0.row O6 7 _) (by rw [List.map_append];rfl)⟩,⟨_,rfl⟩,trivial⟩ rfl rfl rfl
  | exact A8 h0 rfl ⟨rfl,rfl,rfl,trivial⟩ ⟨rfl,⟨_,rfl⟩,⟨_,rfl⟩,⟨_,rfl⟩,congrArg (fun z=>C0.box [.str nm, .i 3, .i 0, .i a, .i b, .sl 1 z, .b (decide (w4 = G2))]) hsl,trivial⟩ rfl rfl rfl
  | exact C9 (A8 h0 rfl ⟨rfl,trivial⟩ ⟨rfl,⟨_,rfl⟩,⟨_,rfl⟩,⟨_,rfl⟩,trivial⟩ rfl rfl rfl)
  | contradiction
  | (exfalso;rcases h3 with g | ⟨g1,g2⟩;(omega);first | exact (show ¬ ¬ w4 = F5 by assumption) g1 | exact (show ¬ ¬ w4 = G2 by assumption) g2)
  | (exfalso;rcases h3 with g | g;exact (show ¬ w4 = F5 by assumption) g;exact (show ¬ w4 = G2 by assumption) g)
  | exact C9 (A8 h0 rfl ⟨congrArg (fun z=>some (AV.b z)) hok,trivial⟩ ⟨rfl,⟨_,rfl⟩,⟨_,rfl⟩,⟨_,rfl⟩,trivial⟩ rfl rfl rfl)
end Go.Proofs.YtiphlhoclaogjabGreatDoor
