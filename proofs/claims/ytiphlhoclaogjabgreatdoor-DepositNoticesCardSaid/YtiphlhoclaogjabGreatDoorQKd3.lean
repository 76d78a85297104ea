/- Chapter 3: the program's reader of files: measures that are none. -/
import Derived.Test.YtiphlhoclaogjabGreatDoorQKc2
set_option linter.unusedVariables false
set_option linter.unnecessarySimpa false
set_option linter.unusedSimpArgs false
namespace Go.Proofs.YtiphlhoclaogjabGreatDoor
open Go Go.Av
attribute [local irreducible] D1 B5 D5 D3 DQ D7 E0 St.le B3 B6
set_option maxRecDepth 100000
set_option maxHeartbeats 16000000 in
theorem XD (r:D6) (w:List (List UInt8)) (hn:r.cols.length ≤ 20000) (hst:¬ r.st = 2) (h1:¬ B9 w 0 = W2) (h2:¬ B9 w 0 = M3) (h6:6 ≤ w.length) (hL:w.length ≤ 20001) (hwl:∀ z ∈ w,z.length ≤ 20000) (h3:B9 w 4 = F5 ∨ B9 w 4 = G2) (hns:N3 ((w.drop 2).take 2 ++ w.drop 5) = none):B6 Tryz.prog 69 4 (R4 r) [.ref 0 0, .sl 1 (w.map E2)] 4 (R4 ⟨r.lists,r.cols ++ [⟨B9 w 1,3,0,0,0,[],false⟩],r.rows,1⟩) (.b false):=by
 obtain ⟨ls,cs,rs,st⟩:=r
 dsimp only at *
 have g0:=H1 (ws:=w) (i:=0) (by omega)
 have g1:=H1 (ws:=w) (i:=1) (by omega)
 have g4:=H1 (ws:=w) (i:=4) (by omega)
 have hcc:B3 Tryz.prog 97 [.sl 1 [[.sl 1 (List.drop (2:Int).toNat (List.take (4:Int).toNat (w.map E2)))],[.sl 1 (List.drop (5:Int).toNat (List.take ((w.map E2).length:Int).toNat (w.map E2)))]]] (.sl 1 (((w.drop 2).take 2 ++ w.drop 5).map E2)):=by
  have h:=Ew [(w.drop 2).take 2,w.drop 5] (by simp only [List.flatten_cons,List.flatten_nil,List.length_append,List.length_take,List.length_drop,List.length_nil];omega) (by simp only [List.flatten_cons,List.flatten_nil,List.length_append,List.length_take,List.length_drop,List.length_nil];omega) (by simp)
  have e1:List.drop (2:Int).toNat (List.take (4:Int).toNat (w.map E2)) = ((w.drop 2).take 2).map E2:=by
   rw [← List.map_take, ← List.map_drop]
   congr 1
   rw [List.take_drop];rfl
  have e2:List.drop (5:Int).toNat (List.take ((w.map E2).length:Int).toNat (w.map E2)) = (w.drop 5).map E2:=by
   rw [Int.toNat_natCast,List.take_length, ← List.map_drop];rfl
  rw [e1,e2]
  rw [show [(w.drop 2).take 2,w.drop 5].flatten = (w.drop 2).take 2 ++ w.drop 5 by simp] at h
  exact h
 have hnm:=Ev ((w.drop 2).take 2 ++ w.drop 5) (fun z hz=>by
  have:z ∈ w:=by
   rcases List.mem_append.1 hz with h | h
   ·exact List.mem_of_mem_drop (List.mem_of_mem_take h)
   ·exact List.mem_of_mem_drop h
  have:=hwl z this;omega) (by simp only [List.length_append,List.length_take,List.length_drop];omega)
 unfold IG at hnm
 rw [hns] at hnm
 have hnm:B3 Tryz.prog 96 [.sl 1 (((w.drop 2).take 2 ++ w.drop 5).map E2)] (.tup [.sl 1 [], .b false]):=hnm
 generalize B9 w 0 = w0 at *
 generalize B9 w 1 = nm at *
 generalize B9 w 4 = w4 at *
 dsimp only [R4,Z7]
 refine M6 Tryz.func69 104 fun E h0=>?_
 repeat' ((first | (refine A7 (x:=w0) g0 (by omega) ?_) | (refine A7 (x:=nm) g1 (by omega) ?_) | (refine A7 (x:=w4) g4 (by omega) ?_) | refine A9 hcc ?_ | refine A9 hnm ?_ | (refine G1 19 ?_;refine K1 (id:=19) (σ':=⟨[(0, .ref 0 0),(5, .iptr (C2 (⟨nm,3,0,0,0,[],false⟩:C1))),(6, .b false)],4,[(0,some (.box [.row 1 0 ls.length, .row 2 0 cs.length, .row 3 0 rs.length, .i 1])),(1,some (.row N5 2 0 (ls.map F2))),(2,some (.row O6 7 0 (cs.map C2))),(3,some (.row S7 1 0 (rs.map D8)))]⟩) (C7 (A8 (σ':=⟨[(0, .ref 0 0),(5, .ref 4 0),(6, .b false)],5,[(0,some (.box [.row 1 0 ls.length, .row 2 0 cs.length, .row 3 0 rs.length, .i 1])),(1,some (.row N5 2 0 (ls.map F2))),(2,some (.row O6 7 0 (cs.map C2))),(3,some (.row S7 1 0 (rs.map D8))),(4,some (.box [.str nm, .i 3, .i 0, .i 0, .i 0, .v (.slice none 0 0), .b false]))]⟩) h0 rfl ⟨rfl,rfl,rfl,trivial⟩ ⟨rfl,⟨_,rfl⟩,⟨_,rfl⟩,⟨_,rfl⟩,rfl,trivial⟩ rfl rfl rfl) (C7 (Cy 4 (C2 (⟨nm,3,0,0,0,[],false⟩:C1)) rfl ⟨.refl _, .refl _, .refl _, .refl _, .refl _, .nil 1, .refl _,trivial⟩) (A8 h0 rfl ⟨rfl,rfl,rfl,trivial⟩ ⟨rfl,⟨_,rfl⟩,⟨_,rfl⟩,⟨_,rfl⟩,trivial⟩ rfl rfl rfl))) ?_;refine I3 (id:=19) ⟨[(6, .b false)],4,[(0,some (.box [.row 1 0 ls.length, .row 2 0 (cs ++ [(⟨nm,3,0,0,0,[],false⟩:C1)]).length, .row 3 0 rs.length, .i 1])),(1,some (.row N5 2 0 (ls.map F2))),(2,some (.row O6 7 0 ((cs ++ [(⟨nm,3,0,0,0,[],false⟩:C1)]).map C2))),(3,some (.row S7 1 0 (rs.map D8)))]⟩ ?_ ?_) |refine A1 ?_|refine S1 ?_|refine Z1 ?_|refine Z2 ?_|(refine And.intro ?_ ?_<;>intro h<;>try first|(exfalso;omega)|exact absurd rfl h)|refine Z3 ?_|refine Z4 ?_|intro el hel hbB|intro el hel|intro ex|refine Z5 ?_|(refine A6 ?_ ?_;exact ⟨by kernel_rfl,by decide⟩)|refine A5 ?_ ?_|exact A4|refine A3 ?_ ?_|exact A2|(refine A0 ?_ ?_ ?_;kernel_rfl;kernel_rfl)) <;> (try (conv=>whnf)))
 all_goals first
  | (exfalso;omega)
  | exact A8 h0 rfl ⟨rfl,trivial⟩ ⟨congrArg (fun z=>C0.box [.row 1 0 ls.length, .row 2 0 z, .row 3 0 rs.length, .i 1]) (by rw [List.length_append];rfl),⟨_,rfl⟩,⟨_,congrArg (C0.row O6 7 _) (by rw [List.map_append];rfl)⟩,⟨_,rfl⟩,trivial⟩ rfl rfl rfl
  | exact A8 h0 rfl ⟨rfl,rfl,rfl,trivial⟩ ⟨rfl,⟨_,rfl⟩,⟨_,rfl⟩,⟨_,rfl⟩,congrArg (fun z=>C0.box [.str nm, .i 3, .i 0, .i a, .i b, .sl 1 z, .b (decide (w4 = G2))]) hsl,trivial⟩ rfl rfl rfl
  | exact C9 (A8 h0 rfl ⟨rfl,trivial⟩ ⟨rfl,⟨_,rfl⟩,⟨_,rfl⟩,⟨_,rfl⟩,trivial⟩ rfl rfl rfl)
  | contradiction
  | (exfalso;rcases h3 with g | ⟨g1,g2⟩;(omega);first | exact (show ¬ ¬ w4 = F5 by assumption) g1 | exact (show ¬ ¬ w4 = G2 by assumption) g2)
  | (exfalso;rcases h3 with g | g;exact (show ¬ w4 = F5 by assumption) g;exact (show ¬ w4 = G2 by assumption) g)
  | exact C9 (A8 h0 rfl ⟨congrArg (fun z=>some (AV.b z)) hok,trivial⟩ ⟨rfl,⟨_,rfl⟩,⟨_,rfl⟩,⟨_,rfl⟩,trivial⟩ rfl rfl rfl)
end Go.Proofs.YtiphlhoclaogjabGreatDoor
namespace Go.Proofs.YtiphlhoclaogjabGreatDoor
open Go Go.Av
attribute [local irreducible] D1 B5 D5 D3 DQ D7 E0 St.le B3 B6
set_option maxRecDepth 100000
set_option maxHeartbeats 16000000 in
theorem XE (r:D6) (w:List (List UInt8)) (hn:r.cols.length ≤ 20000) (hst:¬ r.st = 2) (h1:¬ B9 w 0 = W2) (h2:¬ B9 w 0 = M3) (h6:6 ≤ w.length) (hL:w.length ≤ 20001) (hwl:∀ z ∈ w,z.length ≤ 20000) (h3:B9 w 4 = F5 ∨ B9 w 4 = G2) (a b:Int) (ws:List Int) (hns:N3 ((w.drop 2).take 2 ++ w.drop 5) = some (a :: b :: ws)):B6 Tryz.prog 69 4 (R4 r) [.ref 0 0, .sl 1 (w.map E2)] 4 (R4 ⟨r.lists,r.cols ++ [⟨B9 w 1,3,0,a,b,ws,decide (B9 w 4 = G2)⟩],r.rows,1⟩) (.b true):=by
 obtain ⟨ls,cs,rs,st⟩:=r
 dsimp only at *
 have g0:=H1 (ws:=w) (i:=0) (by omega)
 have g1:=H1 (ws:=w) (i:=1) (by omega)
 have g4:=H1 (ws:=w) (i:=4) (by omega)
 have hcc:B3 Tryz.prog 97 [.sl 1 [[.sl 1 (List.drop (2:Int).toNat (List.take (4:Int).toNat (w.map E2)))],[.sl 1 (List.drop (5:Int).toNat (List.take ((w.map E2).length:Int).toNat (w.map E2)))]]] (.sl 1 (((w.drop 2).take 2 ++ w.drop 5).map E2)):=by
  have h:=Ew [(w.drop 2).take 2,w.drop 5] (by simp only [List.flatten_cons,List.flatten_nil,List.length_append,List.length_take,List.length_drop,List.length_nil];omega) (by simp only [List.flatten_cons,List.flatten_nil,List.length_append,List.length_take,List.length_drop,List.length_nil];omega) (by simp)
  have e1:List.drop (2:Int).toNat (List.take (4:Int).toNat (w.map E2)) = ((w.drop 2).take 2).map E2:=by
   rw [← List.map_take, ← List.map_drop]
   congr 1
   rw [List.take_drop];rfl
  have e2:List.drop (5:Int).toNat (List.take ((w.map E2).length:Int).toNat (w.map E2)) = (w.drop 5).map E2:=by
   rw [Int.toNat_natCast,List.take_length, ← List.map_drop];rfl
  rw [e1,e2]
  rw [show [(w.drop 2).take 2,w.drop 5].flatten = (w.drop 2).take 2 ++ w.drop 5 by simp] at h
  exact h
 have hnm:=Ev ((w.drop 2).take 2 ++ w.drop 5) (fun z hz=>by
  have:z ∈ w:=by
   rcases List.mem_append.1 hz with h | h
   ·exact List.mem_of_mem_drop (List.mem_of_mem_take h)
   ·exact List.mem_of_mem_drop h
  have:=hwl z this;omega) (by simp only [List.length_append,List.length_take,List.length_drop];omega)
 unfold IG at hnm
 rw [hns] at hnm
 have hnm:B3 Tryz.prog 96 [.sl 1 (((w.drop 2).take 2 ++ w.drop 5).map E2)] (.tup [.sl 1 ((a :: b :: ws).map wA), .b true]):=hnm
 have hsl:ws.map wA = List.drop (2:Int).toNat (List.take (((a :: b :: ws).map wA).length:Int).toNat ((a :: b :: ws).map wA)):=by rw [Int.toNat_natCast,List.take_length];rfl
 have n0:(a :: b :: ws)[0]? = some a:=rfl
 have n1:(a :: b :: ws)[1]? = some b:=rfl
 generalize B9 w 0 = w0 at *
 generalize B9 w 1 = nm at *
 generalize B9 w 4 = w4 at *
 dsimp only [R4,Z7]
 refine M6 Tryz.func69 104 fun E h0=>?_
 repeat' ((first | (refine A7 (x:=w0) g0 (by omega) ?_) | (refine A7 (x:=nm) g1 (by omega) ?_) | (refine A7 (x:=w4) g4 (by omega) ?_) | (refine A7 (x:=a) n0 (by omega) ?_) | (refine A7 (x:=b) n1 (by omega) ?_) | (refine G7 ?_ ?_;(simp only [List.length_map,List.length_cons];omega)) | refine A9 hcc ?_ | refine A9 hnm ?_ | (refine I3 (id:=12) ⟨[(0, .ref 0 0),(5, .ref 4 0),(6, .b true)],5,[(0,some (.box [.row 1 0 ls.length, .row 2 0 cs.length, .row 3 0 rs.length, .i 1])),(1,some (.row N5 2 0 (ls.map F2))),(2,some (.row O6 7 0 (cs.map C2))),(3,some (.row S7 1 0 (rs.map D8))),(4,some (.box [.str nm, .i 3, .i 0, .i a, .i b, .sl 1 (ws.map wA), .b (decide (w4 = G2))]))]⟩ ?_ ?_) | (refine G1 19 ?_;refine K1 (id:=19) (σ':=⟨[(0, .ref 0 0),(5, .iptr (C2 (⟨nm,3,0,a,b,ws,decide (w4 = G2)⟩:C1))),(6, .b true)],4,[(0,some (.box [.row 1 0 ls.length, .row 2 0 cs.length, .row 3 0 rs.length, .i 1])),(1,some (.row N5 2 0 (ls.map F2))),(2,some (.row O6 7 0 (cs.map C2))),(3,some (.row S7 1 0 (rs.map D8)))]⟩) (C7 (A8 (σ':=⟨[(0, .ref 0 0),(5, .ref 4 0),(6, .b true)],5,[(0,some (.box [.row 1 0 ls.length, .row 2 0 cs.length, .row 3 0 rs.length, .i 1])),(1,some (.row N5 2 0 (ls.map F2))),(2,some (.row O6 7 0 (cs.map C2))),(3,some (.row S7 1 0 (rs.map D8))),(4,some (.box [.str nm, .i 3, .i 0, .i a, .i b, .sl 1 (ws.map wA), .b (decide (w4 = G2))]))]⟩) h0 rfl ⟨rfl,rfl,rfl,trivial⟩ ⟨rfl,⟨_,rfl⟩,⟨_,rfl⟩,⟨_,rfl⟩,rfl,trivial⟩ rfl rfl rfl) (C7 (Cy 4 (C2 (⟨nm,3,0,a,b,ws,decide (w4 = G2)⟩:C1)) rfl ⟨.refl _, .refl _, .refl _, .refl _, .refl _, .refl _, .refl _,trivial⟩) (A8 h0 rfl ⟨rfl,rfl,rfl,trivial⟩ ⟨rfl,⟨_,rfl⟩,⟨_,rfl⟩,⟨_,rfl⟩,trivial⟩ rfl rfl rfl))) ?_;refine I3 (id:=19) ⟨[(6, .b true)],4,[(0,some (.box [.row 1 0 ls.length, .row 2 0 (cs ++ [(⟨nm,3,0,a,b,ws,decide (w4 = G2)⟩:C1)]).length, .row 3 0 rs.length, .i 1])),(1,some (.row N5 2 0 (ls.map F2))),(2,some (.row O6 7 0 ((cs ++ [(⟨nm,3,0,a,b,ws,decide (w4 = G2)⟩:C1)]).map C2))),(3,some (.row S7 1 0 (rs.map D8)))]⟩ ?_ ?_) |refine A1 ?_|refine S1 ?_|refine Z1 ?_|refine Z2 ?_|(refine And.intro ?_ ?_<;>intro h<;>try first|(exfalso;omega)|exact absurd rfl h)|refine Z3 ?_|refine Z4 ?_|intro el hel hbB|intro el hel|intro ex|refine Z5 ?_|(refine A6 ?_ ?_;exact ⟨by kernel_rfl,by decide⟩)|refine A5 ?_ ?_|exact A4|refine A3 ?_ ?_|exact A2|(refine A0 ?_ ?_ ?_;kernel_rfl;kernel_rfl)) <;> (try (conv=>whnf)))
 all_goals first
  | (exfalso;omega)
  | exact A8 h0 rfl ⟨rfl,trivial⟩ ⟨congrArg (fun z=>C0.box [.row 1 0 ls.length, .row 2 0 z, .row 3 0 rs.length, .i 1]) (by rw [List.length_append];rfl),⟨_,rfl⟩,⟨_,congrArg (C0.row O6 7 _) (by rw [List.map_append];rfl)⟩,⟨_,rfl⟩,trivial⟩ rfl rfl rfl
  | exact A8 h0 rfl ⟨rfl,rfl,rfl,trivial⟩ ⟨rfl,⟨_,rfl⟩,⟨_,rfl⟩,⟨_,rfl⟩,congrArg (fun z=>C0.box [.str nm, .i 3, .i 0, .i a, .i b, .sl 1 z, .b (decide (w4 = G2))]) hsl,trivial⟩ rfl rfl rfl
  | exact C9 (A8 h0 rfl ⟨rfl,trivial⟩ ⟨rfl,⟨_,rfl⟩,⟨_,rfl⟩,⟨_,rfl⟩,trivial⟩ rfl rfl rfl)
  | contradiction
  | (exfalso;rcases h3 with g | ⟨g1,g2⟩;(omega);first | exact (show ¬ ¬ w4 = F5 by assumption) g1 | exact (show ¬ ¬ w4 = G2 by assumption) g2)
  | (exfalso;rcases h3 with g | g;exact (show ¬ w4 = F5 by assumption) g;exact (show ¬ w4 = G2 by assumption) g)
  | exact C9 (A8 h0 rfl ⟨congrArg (fun z=>some (AV.b z)) hok,trivial⟩ ⟨rfl,⟨_,rfl⟩,⟨_,rfl⟩,⟨_,rfl⟩,trivial⟩ rfl rfl rfl)
end Go.Proofs.YtiphlhoclaogjabGreatDoor
