/- Chapter 3: the program's reader of files: measures that are none. -/
import Derived.Test.YtiphlhoclaogjabGreatDoorQKc2
set_option linter.unusedVariables false
set_option linter.unnecessarySimpa false
set_option linter.unusedSimpArgs false
namespace Go.Proofs.YtiphlhoclaogjabGreatDoor
open Go Go.Av
attribute [local irreducible] D6 B8 D8 D7 DQ E0 E1 St.le B4 B9
set_option maxRecDepth 100000
set_option maxHeartbeats 16000000 in
theorem Wc (r:F5) (w:List (List UInt8)) (hn:r.cols.length ≤ 20000) (hst:¬ r.st = 2) (h1:¬ B6 w 0 = U6) (h2:¬ B6 w 0 = O2) (h6:6 ≤ w.length) (hL:w.length ≤ 20001) (hwl:∀ z ∈ w,z.length ≤ 20000) (h3:B6 w 4 = G8 ∨ B6 w 4 = H2) (hns:P4 ((w.drop 2).take 2 ++ w.drop 5) = none):B9 Tryz.prog 69 4 (R8 r) [.ref 0 0, .sl 1 (w.map C1)] 4 (R8 ⟨r.lists,r.cols ++ [⟨B6 w 1,3,0,0,0,[],false⟩],r.rows,1⟩) (.b false):=by
 obtain ⟨ls,cs,rs,st⟩:=r
 dsimp only at *
 have g0:=C8 (ws:=w) (i:=0) (by omega)
 have g1:=C8 (ws:=w) (i:=1) (by omega)
 have g4:=C8 (ws:=w) (i:=4) (by omega)
 have hcc:B4 Tryz.prog 97 [.sl 1 [[.sl 1 (List.drop (2:Int).toNat (List.take (4:Int).toNat (w.map C1)))],[.sl 1 (List.drop (5:Int).toNat (List.take ((w.map C1).length:Int).toNat (w.map C1)))]]] (.sl 1 (((w.drop 2).take 2 ++ w.drop 5).map C1)):=by
  have h:=FC [(w.drop 2).take 2,w.drop 5] (by simp only [List.flatten_cons,List.flatten_nil,List.length_append,List.length_take,List.length_drop,List.length_nil];omega) (by simp only [List.flatten_cons,List.flatten_nil,List.length_append,List.length_take,List.length_drop,List.length_nil];omega) (by simp)
  have e1:List.drop (2:Int).toNat (List.take (4:Int).toNat (w.map C1)) = ((w.drop 2).take 2).map C1:=by
   rw [← List.map_take, ← List.map_drop]
   congr 1
   rw [List.take_drop];rfl
  have e2:List.drop (5:Int).toNat (List.take ((w.map C1).length:Int).toNat (w.map C1)) = (w.drop 5).map C1:=by
   rw [Int.toNat_natCast,List.take_length, ← List.map_drop];rfl
  rw [e1,e2]
  rw [show [(w.drop 2).take 2,w.drop 5].flatten = (w.drop 2).take 2 ++ w.drop 5 by simp] at h
  exact h
 have hnm:=FB ((w.drop 2).take 2 ++ w.drop 5) (fun z hz=>by
  have:z ∈ w:=by
   rcases List.mem_append.1 hz with h | h
   ·exact List.mem_of_mem_drop (List.mem_of_mem_take h)
   ·exact List.mem_of_mem_drop h
  have:=hwl z this;omega) (by simp only [List.length_append,List.length_take,List.length_drop];omega)
 unfold IA at hnm
 rw [hns] at hnm
 have hnm:B4 Tryz.prog 96 [.sl 1 (((w.drop 2).take 2 ++ w.drop 5).map C1)] (.tup [.sl 1 [], .b false]):=hnm
 generalize B6 w 0 = w0 at *
 generalize B6 w 1 = nm at *
 generalize B6 w 4 = w4 at *
 dsimp only [R8,Z9]
 refine J1 Tryz.func69 104 fun E h0=>?_
 repeat' ((first | (refine A3 (x:=w0) g0 (by omega) ?_) | (refine A3 (x:=nm) g1 (by omega) ?_) | (refine A3 (x:=w4) g4 (by omega) ?_) | refine B2 hcc ?_ | refine B2 hnm ?_ | (refine G2 19 ?_;refine K5 (id:=19) (σ':=⟨[(0, .ref 0 0),(5, .iptr (C0 (⟨nm,3,0,0,0,[],false⟩:C5))),(6, .b false)],4,[(0,some (.box [.row 1 0 ls.length, .row 2 0 cs.length, .row 3 0 rs.length, .i 1])),(1,some (.row K3 2 0 (ls.map D3))),(2,some (.row J2 7 0 (cs.map C0))),(3,some (.row I3 1 0 (rs.map D2)))]⟩) (C3 (B0 (σ':=⟨[(0, .ref 0 0),(5, .ref 4 0),(6, .b false)],5,[(0,some (.box [.row 1 0 ls.length, .row 2 0 cs.length, .row 3 0 rs.length, .i 1])),(1,some (.row K3 2 0 (ls.map D3))),(2,some (.row J2 7 0 (cs.map C0))),(3,some (.row I3 1 0 (rs.map D2))),(4,some (.box [.str nm, .i 3, .i 0, .i 0, .i 0, .v (.slice none 0 0), .b false]))]⟩) h0 rfl ⟨rfl,rfl,rfl,trivial⟩ ⟨rfl,⟨_,rfl⟩,⟨_,rfl⟩,⟨_,rfl⟩,rfl,trivial⟩ rfl rfl rfl) (C3 (Ct 4 (C0 (⟨nm,3,0,0,0,[],false⟩:C5)) rfl ⟨.refl _, .refl _, .refl _, .refl _, .refl _, .nil 1, .refl _,trivial⟩) (B0 h0 rfl ⟨rfl,rfl,rfl,trivial⟩ ⟨rfl,⟨_,rfl⟩,⟨_,rfl⟩,⟨_,rfl⟩,trivial⟩ rfl rfl rfl))) ?_;refine G6 (id:=19) ⟨[(6, .b false)],4,[(0,some (.box [.row 1 0 ls.length, .row 2 0 (cs ++ [(⟨nm,3,0,0,0,[],false⟩:C5)]).length, .row 3 0 rs.length, .i 1])),(1,some (.row K3 2 0 (ls.map D3))),(2,some (.row J2 7 0 ((cs ++ [(⟨nm,3,0,0,0,[],false⟩:C5)]).map C0))),(3,some (.row I3 1 0 (rs.map D2)))]⟩ ?_ ?_) |refine A4 ?_|refine S1 ?_|refine Z1 ?_|refine Z2 ?_|(refine And.intro ?_ ?_<;>intro h<;>try first|(exfalso;omega)|exact absurd rfl h)|refine Z3 ?_|refine Z4 ?_|intro el hel hbB|intro el hel|intro ex|refine Z5 ?_|(refine A9 ?_ ?_;exact ⟨by kernel_rfl,by decide⟩)|refine A8 ?_ ?_|exact A7|refine A6 ?_ ?_|exact A5|(refine A0 ?_ ?_ ?_;kernel_rfl;kernel_rfl)) <;> (try (conv=>whnf)))
 all_goals first
  | (exfalso;omega)
  | exact B0 h0 rfl ⟨rfl,trivial⟩ ⟨congrArg (fun z=>C6.box [.row 1 0 ls.length, .row 2 0 z, .row 3 0 rs.length, .i 1]) (by rw [List.length_append];rfl),⟨_,rfl⟩,⟨_,congrArg (C6.row J2 7 _) (by rw [List.map_append];rfl)⟩,⟨_,rfl⟩,trivial⟩ rfl rfl rfl
  | exact B0 h0 rfl ⟨rfl,rfl,rfl,trivial⟩ ⟨rfl,⟨_,rfl⟩,⟨_,rfl⟩,⟨_,rfl⟩,congrArg (fun z=>C6.box [.str nm, .i 3, .i 0, .i a, .i b, .sl 1 z, .b (decide (w4 = H2))]) hsl,trivial⟩ rfl rfl rfl
  | exact D5 (B0 h0 rfl ⟨rfl,trivial⟩ ⟨rfl,⟨_,rfl⟩,⟨_,rfl⟩,⟨_,rfl⟩,trivial⟩ rfl rfl rfl)
  | contradiction
  | (exfalso;rcases h3 with g | ⟨g1,g2⟩;(omega);first | exact (show ¬ ¬ w4 = G8 by assumption) g1 | exact (show ¬ ¬ w4 = H2 by assumption) g2)
  | (exfalso;rcases h3 with g | g;exact (show ¬ w4 = G8 by assumption) g;exact (show ¬ w4 = H2 by assumption) g)
  | exact D5 (B0 h0 rfl ⟨congrArg (fun z=>some (AV.b z)) hok,trivial⟩ ⟨rfl,⟨_,rfl⟩,⟨_,rfl⟩,⟨_,rfl⟩,trivial⟩ rfl rfl rfl)
end Go.Proofs.YtiphlhoclaogjabGreatDoor
namespace Go.Proofs.YtiphlhoclaogjabGreatDoor
open Go Go.Av
attribute [local irreducible] D6 B8 D8 D7 DQ E0 E1 St.le B4 B9
set_option maxRecDepth 100000
set_option maxHeartbeats 16000000 in
theorem Wd (r:F5) (w:List (List UInt8)) (hn:r.cols.length ≤ 20000) (hst:¬ r.st = 2) (h1:¬ B6 w 0 = U6) (h2:¬ B6 w 0 = O2) (h6:6 ≤ w.length) (hL:w.length ≤ 20001) (hwl:∀ z ∈ w,z.length ≤ 20000) (h3:B6 w 4 = G8 ∨ B6 w 4 = H2) (a b:Int) (ws:List Int) (hns:P4 ((w.drop 2).take 2 ++ w.drop 5) = some (a :: b :: ws)):B9 Tryz.prog 69 4 (R8 r) [.ref 0 0, .sl 1 (w.map C1)] 4 (R8 ⟨r.lists,r.cols ++ [⟨B6 w 1,3,0,a,b,ws,decide (B6 w 4 = H2)⟩],r.rows,1⟩) (.b true):=by
 obtain ⟨ls,cs,rs,st⟩:=r
 dsimp only at *
 have g0:=C8 (ws:=w) (i:=0) (by omega)
 have g1:=C8 (ws:=w) (i:=1) (by omega)
 have g4:=C8 (ws:=w) (i:=4) (by omega)
 have hcc:B4 Tryz.prog 97 [.sl 1 [[.sl 1 (List.drop (2:Int).toNat (List.take (4:Int).toNat (w.map C1)))],[.sl 1 (List.drop (5:Int).toNat (List.take ((w.map C1).length:Int).toNat (w.map C1)))]]] (.sl 1 (((w.drop 2).take 2 ++ w.drop 5).map C1)):=by
  have h:=FC [(w.drop 2).take 2,w.drop 5] (by simp only [List.flatten_cons,List.flatten_nil,List.length_append,List.length_take,List.length_drop,List.length_nil];omega) (by simp only [List.flatten_cons,List.flatten_nil,List.length_append,List.length_take,List.length_drop,List.length_nil];omega) (by simp)
  have e1:List.drop (2:Int).toNat (List.take (4:Int).toNat (w.map C1)) = ((w.drop 2).take 2).map C1:=by
   rw [← List.map_take, ← List.map_drop]
   congr 1
   rw [List.take_drop];rfl
  have e2:List.drop (5:Int).toNat (List.take ((w.map C1).length:Int).toNat (w.map C1)) = (w.drop 5).map C1:=by
   rw [Int.toNat_natCast,List.take_length, ← List.map_drop];rfl
  rw [e1,e2]
  rw [show [(w.drop 2).take 2,w.drop 5].flatten = (w.drop 2).take 2 ++ w.drop 5 by simp] at h
  exact h
 have hnm:=FB ((w.drop 2).take 2 ++ w.drop 5) (fun z hz=>by
  have:z ∈ w:=by
   rcases List.mem_append.1 hz with h | h
   ·exact List.mem_of_mem_drop (List.mem_of_mem_take h)
   ·exact List.mem_of_mem_drop h
  have:=hwl z this;omega) (by simp only [List.length_append,List.length_take,List.length_drop];omega)
 unfold IA at hnm
 rw [hns] at hnm
 have hnm:B4 Tryz.prog 96 [.sl 1 (((w.drop 2).take 2 ++ w.drop 5).map C1)] (.tup [.sl 1 ((a :: b :: ws).map wA), .b true]):=hnm
 have hsl:ws.map wA = List.drop (2:Int).toNat (List.take (((a :: b :: ws).map wA).length:Int).toNat ((a :: b :: ws).map wA)):=by rw [Int.toNat_natCast,List.take_length];rfl
 have n0:(a :: b :: ws)[0]? = some a:=rfl
 have n1:(a :: b :: ws)[1]? = some b:=rfl
 generalize B6 w 0 = w0 at *
 generalize B6 w 1 = nm at *
 generalize B6 w 4 = w4 at *
 dsimp only [R8,Z9]
 refine J1 Tryz.func69 104 fun E h0=>?_
 repeat' ((first | (refine A3 (x:=w0) g0 (by omega) ?_) | (refine A3 (x:=nm) g1 (by omega) ?_) | (refine A3 (x:=w4) g4 (by omega) ?_) | (refine A3 (x:=a) n0 (by omega) ?_) | (refine A3 (x:=b) n1 (by omega) ?_) | (refine G9 ?_ ?_;(simp only [List.length_map,List.length_cons];omega)) | refine B2 hcc ?_ | refine B2 hnm ?_ | (refine G6 (id:=12) ⟨[(0, .ref 0 0),(5, .ref 4 0),(6, .b true)],5,[(0,some (.box [.row 1 0 ls.length, .row 2 0 cs.length, .row 3 0 rs.length, .i 1])),(1,some (.row K3 2 0 (ls.map D3))),(2,some (.row J2 7 0 (cs.map C0))),(3,some (.row I3 1 0 (rs.map D2))),(4,some (.box [.str nm, .i 3, .i 0, .i a, .i b, .sl 1 (ws.map wA), .b (decide (w4 = H2))]))]⟩ ?_ ?_) | (refine G2 19 ?_;refine K5 (id:=19) (σ':=⟨[(0, .ref 0 0),(5, .iptr (C0 (⟨nm,3,0,a,b,ws,decide (w4 = H2)⟩:C5))),(6, .b true)],4,[(0,some (.box [.row 1 0 ls.length, .row 2 0 cs.length, .row 3 0 rs.length, .i 1])),(1,some (.row K3 2 0 (ls.map D3))),(2,some (.row J2 7 0 (cs.map C0))),(3,some (.row I3 1 0 (rs.map D2)))]⟩) (C3 (B0 (σ':=⟨[(0, .ref 0 0),(5, .ref 4 0),(6, .b true)],5,[(0,some (.box [.row 1 0 ls.length, .row 2 0 cs.length, .row 3 0 rs.length, .i 1])),(1,some (.row K3 2 0 (ls.map D3))),(2,some (.row J2 7 0 (cs.map C0))),(3,some (.row I3 1 0 (rs.map D2))),(4,some (.box [.str nm, .i 3, .i 0, .i a, .i b, .sl 1 (ws.map wA), .b (decide (w4 = H2))]))]⟩) h0 rfl ⟨rfl,rfl,rfl,trivial⟩ ⟨rfl,⟨_,rfl⟩,⟨_,rfl⟩,⟨_,rfl⟩,rfl,trivial⟩ rfl rfl rfl) (C3 (Ct 4 (C0 (⟨nm,3,0,a,b,ws,decide (w4 = H2)⟩:C5)) rfl ⟨.refl _, .refl _, .refl _, .refl _, .refl _, .refl _, .refl _,trivial⟩) (B0 h0 rfl ⟨rfl,rfl,rfl,trivial⟩ ⟨rfl,⟨_,rfl⟩,⟨_,rfl⟩,⟨_,rfl⟩,trivial⟩ rfl rfl rfl))) ?_;refine G6 (id:=19) ⟨[(6, .b true)],4,[(0,some (.box [.row 1 0 ls.length, .row 2 0 (cs ++ [(⟨nm,3,0,a,b,ws,decide (w4 = H2)⟩:C5)]).length, .row 3 0 rs.length, .i 1])),(1,some (.row K3 2 0 (ls.map D3))),(2,some (.row J2 7 0 ((cs ++ [(⟨nm,3,0,a,b,ws,decide (w4 = H2)⟩:C5)]).map C0))),(3,some (.row I3 1 0 (rs.map D2)))]⟩ ?_ ?_) |refine A4 ?_|refine S1 ?_|refine Z1 ?_|refine Z2 ?_|(refine And.intro ?_ ?_<;>intro h<;>try first|(exfalso;omega)|exact absurd rfl h)|refine Z3 ?_|refine Z4 ?_|intro el hel hbB|intro el hel|intro ex|refine Z5 ?_|(refine A9 ?_ ?_;exact ⟨by kernel_rfl,by decide⟩)|refine A8 ?_ ?_|exact A7|refine A6 ?_ ?_|exact A5|(refine A0 ?_ ?_ ?_;kernel_rfl;kernel_rfl)) <;> (try (conv=>whnf)))
 all_goals first
  | (exfalso;omega)
  | exact B0 h0 rfl ⟨rfl,trivial⟩ ⟨congrArg (fun z=>C6.box [.row 1 0 ls.length, .row 2 0 z, .row 3 0 rs.length, .i 1]) (by rw [List.length_append];rfl),⟨_,rfl⟩,⟨_,congrArg (C6.row J2 7 _) (by rw [List.map_append];rfl)⟩,⟨_,rfl⟩,trivial⟩ rfl rfl rfl
  | exact B0 h0 rfl ⟨rfl,rfl,rfl,trivial⟩ ⟨rfl,⟨_,rfl⟩,⟨_,rfl⟩,⟨_,rfl⟩,congrArg (fun z=>C6.box [.str nm, .i 3, .i 0, .i a, .i b, .sl 1 z, .b (decide (w4 = H2))]) hsl,trivial⟩ rfl rfl rfl
  | exact D5 (B0 h0 rfl ⟨rfl,trivial⟩ ⟨rfl,⟨_,rfl⟩,⟨_,rfl⟩,⟨_,rfl⟩,trivial⟩ rfl rfl rfl)
  | contradiction
  | (exfalso;rcases h3 with g | ⟨g1,g2⟩;(omega);first | exact (show ¬ ¬ w4 = G8 by assumption) g1 | exact (show ¬ ¬ w4 = H2 by assumption) g2)
  | (exfalso;rcases h3 with g | g;exact (show ¬ w4 = G8 by assumption) g;exact (show ¬ w4 = H2 by assumption) g)
  | exact D5 (B0 h0 rfl ⟨congrArg (fun z=>some (AV.b z)) hok,trivial⟩ ⟨rfl,⟨_,rfl⟩,⟨_,rfl⟩,⟨_,rfl⟩,trivial⟩ rfl rfl rfl)
end Go.Proofs.YtiphlhoclaogjabGreatDoor
