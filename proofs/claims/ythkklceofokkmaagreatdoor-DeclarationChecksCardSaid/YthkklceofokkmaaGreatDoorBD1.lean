/- Chapter 5: the reader's numbers, and what stands behind a column's name. Chapter 5: the reader: a condition about one column, behind the column's name. Chapter 5: the reader: conditions. Chapter 5: texts of conditions; conditions out of texts. -/
import Derived.Test.YthkklceofokkmaaGreatDoorBC4
import Derived.Test.YthkklceofokkmaaGreatDoorBCm2
import Derived.Lib.AtoiAllCases
import Derived.Lib.ItoaLen
set_option linter.unusedVariables false
set_option linter.unnecessarySimpa false
set_option linter.unusedSimpArgs false
namespace Go.Proofs.YthkklceofokkmaaGreatDoor
open Go Go.Av
attribute [local irreducible] E5 B7 E6 E7 DQ E8 F0 St.le B3 B5
set_option maxRecDepth 100000
theorem s4 (w t:List UInt8):C7 w t = (t,false) ∨ ∃ u,C7 w t = (u,true) ∧ u.length ≤ t.length:=by
 unfold C7
 split
 ·exact .inr ⟨_,rfl,by simp⟩
 ·exact .inl rfl
set_option maxHeartbeats 4000000 in
theorem Hm (s:B2) (t u w r sg:List UInt8) (neg:Bool) (left:Int) (hc:C7 [45] t = (u,neg)) (hw:u.takeWhile J5 = w) (hr:u.dropWhile J5 = r) (hsg:sg = if neg = true then [45] else []) (ht:t.length ≤ 140737488355328) (hu:u.length ≤ t.length) (v:Int) (b:Bool)
  (hat:B3 Tryz.prog 167 [.str (sg ++ w)] (.tup [.v (.int .i64 v),if b = true then .v .nilIface else .err])) (hb:b = true → -9223372036854775808 ≤ v ∧ v ≤ 9223372036854775807) :
  B5 Tryz.prog 196 1 (DM s t left) [.ref 0 0] 1 (DM s r left) (.tup [.i v, .b (b && decide (Lib.itoa v = sg ++ w))]):=by
 have r1:=W0 s t [45] left (by omega) (by decide)
 have r2:=He s u left (by omega)
 have hwl:=w8 J5 u
 rw [hc] at r1
 rw [hw] at hwl
 rw [hw,hr] at r2
 dsimp only at r1
 have r4:b = true → B3 Tryz.prog 28 [.v (.int .i64 v)] (.str (Lib.itoa v)):=fun h=>i7 v (hb h).1 (hb h).2
 cases neg
 ·obtain rfl:sg = []:=hsg
  cases b
  ·rw [if_neg Bool.false_ne_true] at hat
   refine G3 Tryz.func196 30 fun E h0=>?_
   repeat' ((first | refine ⟨C3 [0] [0] r1 rfl rfl rfl rfl rfl ⟨rfl,trivial⟩ rfl rfl rfl rfl rfl ?_⟩ | refine ⟨C3 [0] [0] r2 rfl rfl rfl rfl rfl ⟨rfl,trivial⟩ rfl rfl rfl rfl rfl ?_⟩ | refine B0 hat ?_ | (refine G2 ?_ ?_;(show 0 + w.length ≤ 9223372036854775807;omega)) |refine A1 ?_|refine S1 ?_|refine Z1 ?_|refine Z2 ?_|(refine And.intro ?_ ?_<;>intro h<;>try first|(exfalso;omega)|exact absurd rfl h)|refine Z3 ?_|refine Z4 ?_|intro el hel hbB|intro el hel|intro ex|refine Z5 ?_|(refine A8 ?_ ?_;exact ⟨by kernel_rfl,by decide⟩)|refine A7 ?_ ?_|exact A6|refine A3 ?_ ?_|exact A2|(refine A0 ?_ ?_ ?_;kernel_rfl;kernel_rfl)) <;> (try (conv=>whnf)))
   all_goals first
    | exact D0 (rvs:=[.tmp 2, .tmp 3]) (vs:=[_,_]) trivial rfl rfl (A5 h0 rfl ⟨rfl,rfl,trivial⟩ ⟨rfl,trivial⟩ rfl rfl rfl) rfl
  ·have r5:=r4 rfl
   rw [if_pos rfl] at hat
   refine G3 Tryz.func196 30 fun E h0=>?_
   repeat' ((first | refine ⟨C3 [0] [0] r1 rfl rfl rfl rfl rfl ⟨rfl,trivial⟩ rfl rfl rfl rfl rfl ?_⟩ | refine ⟨C3 [0] [0] r2 rfl rfl rfl rfl rfl ⟨rfl,trivial⟩ rfl rfl rfl rfl rfl ?_⟩ | refine B0 hat ?_ | (refine G2 ?_ ?_;(show 0 + w.length ≤ 9223372036854775807;omega)) | refine B0 r5 ?_ |refine A1 ?_|refine S1 ?_|refine Z1 ?_|refine Z2 ?_|(refine And.intro ?_ ?_<;>intro h<;>try first|(exfalso;omega)|exact absurd rfl h)|refine Z3 ?_|refine Z4 ?_|intro el hel hbB|intro el hel|intro ex|refine Z5 ?_|(refine A8 ?_ ?_;exact ⟨by kernel_rfl,by decide⟩)|refine A7 ?_ ?_|exact A6|refine A3 ?_ ?_|exact A2|(refine A0 ?_ ?_ ?_;kernel_rfl;kernel_rfl)) <;> (try (conv=>whnf)))
   all_goals first
    | exact D0 (rvs:=[.tmp 2, .tmp 3]) (vs:=[_,_]) trivial rfl rfl (A5 h0 rfl ⟨rfl,rfl,trivial⟩ ⟨rfl,trivial⟩ rfl rfl rfl) rfl
 ·obtain rfl:sg = [45]:=hsg
  cases b
  ·rw [if_neg Bool.false_ne_true] at hat
   refine G3 Tryz.func196 30 fun E h0=>?_
   repeat' ((first | refine ⟨C3 [0] [0] r1 rfl rfl rfl rfl rfl ⟨rfl,trivial⟩ rfl rfl rfl rfl rfl ?_⟩ | refine ⟨C3 [0] [0] r2 rfl rfl rfl rfl rfl ⟨rfl,trivial⟩ rfl rfl rfl rfl rfl ?_⟩ | refine B0 hat ?_ | (refine G2 ?_ ?_;(show 1 + w.length ≤ 9223372036854775807;omega)) |refine A1 ?_|refine S1 ?_|refine Z1 ?_|refine Z2 ?_|(refine And.intro ?_ ?_<;>intro h<;>try first|(exfalso;omega)|exact absurd rfl h)|refine Z3 ?_|refine Z4 ?_|intro el hel hbB|intro el hel|intro ex|refine Z5 ?_|(refine A8 ?_ ?_;exact ⟨by kernel_rfl,by decide⟩)|refine A7 ?_ ?_|exact A6|refine A3 ?_ ?_|exact A2|(refine A0 ?_ ?_ ?_;kernel_rfl;kernel_rfl)) <;> (try (conv=>whnf)))
   all_goals first
    | exact D0 (rvs:=[.tmp 2, .tmp 3]) (vs:=[_,_]) trivial rfl rfl (A5 h0 rfl ⟨rfl,rfl,trivial⟩ ⟨rfl,trivial⟩ rfl rfl rfl) rfl
  ·have r5:=r4 rfl
   rw [if_pos rfl] at hat
   refine G3 Tryz.func196 30 fun E h0=>?_
   repeat' ((first | refine ⟨C3 [0] [0] r1 rfl rfl rfl rfl rfl ⟨rfl,trivial⟩ rfl rfl rfl rfl rfl ?_⟩ | refine ⟨C3 [0] [0] r2 rfl rfl rfl rfl rfl ⟨rfl,trivial⟩ rfl rfl rfl rfl rfl ?_⟩ | refine B0 hat ?_ | (refine G2 ?_ ?_;(show 1 + w.length ≤ 9223372036854775807;omega)) | refine B0 r5 ?_ |refine A1 ?_|refine S1 ?_|refine Z1 ?_|refine Z2 ?_|(refine And.intro ?_ ?_<;>intro h<;>try first|(exfalso;omega)|exact absurd rfl h)|refine Z3 ?_|refine Z4 ?_|intro el hel hbB|intro el hel|intro ex|refine Z5 ?_|(refine A8 ?_ ?_;exact ⟨by kernel_rfl,by decide⟩)|refine A7 ?_ ?_|exact A6|refine A3 ?_ ?_|exact A2|(refine A0 ?_ ?_ ?_;kernel_rfl;kernel_rfl)) <;> (try (conv=>whnf)))
   all_goals first
    | exact D0 (rvs:=[.tmp 2, .tmp 3]) (vs:=[_,_]) trivial rfl rfl (A5 h0 rfl ⟨rfl,rfl,trivial⟩ ⟨rfl,trivial⟩ rfl rfl rfl) rfl
theorem JK (s:B2) (t:List UInt8) (left:Int) (ht:t.length ≤ 140737488355328):B5 Tryz.prog 196 1 (DM s t left) [.ref 0 0] 1 (DM s (Q5 t).2.2 left) (.tup [.i (Q5 t).1, .b (Q5 t).2.1]):=by
 have hl:=U9 [45] t
 have hwl:=w8 J5 (C7 [45] t).1
 have hz:(BQ t).length ≤ 281474976710656:=by
  unfold BQ
  rw [List.length_append]
  have:(if (C7 [45] t).2 = true then [45] else ([]:List UInt8)).length ≤ 1:=by split <;> simp
  omega
 cases h:Lib.atoiAll (BQ t) with
 | ok v =>
   have:=Hm s t (C7 [45] t).1 _ _ _ (C7 [45] t).2 left rfl rfl rfl rfl ht hl v true (Rx _ hz h) (fun _=>Lib.atoiAll_bounds h)
   rw [Bool.true_and] at this
   unfold Q5 GZ
   rw [h]
   exact this
 | range =>
   have:=Hm s t (C7 [45] t).1 _ _ _ (C7 [45] t).2 left rfl rfl rfl rfl ht hl _ false (PP _ hz h) (fun h=>by cases h)
   rw [Bool.false_and] at this
   unfold Q5 GZ
   rw [h]
   exact this
 | _ =>
   have:=Hm s t (C7 [45] t).1 _ _ _ (C7 [45] t).2 left rfl rfl rfl rfl ht hl 0 false (PO _ hz h) (fun h=>by cases h)
   rw [Bool.false_and] at this
   unfold Q5 GZ
   rw [h]
   exact this
abbrev ey:List AV:=[.i 0, .i 0, .i 0, .i 0, .i 0, .v (.slice none 0 0)]
set_option maxHeartbeats 8000000 in
theorem Tl (s:B2) (hr:C8 s = 0) (t:List UInt8) (col left:Int) (x:G9) (hx:s.cols[col.toNat]? = some x) (h0c:0 ≤ col) (ht:t.length ≤ 140737488355328):B5 Tryz.prog 185 1 (DM s t left) [.ref 0 0, .i col] 1 (DM s (k7 s col t).2.2 left) (.tup [L8 (k7 s col t).1, .b (k7 s col t).2.1]):=by
 unfold k7
 rw [E0 hx]
 have r1:=W0 s t U4 left (by omega) (by decide)
 rcases s4 U4 t with e1 | ⟨u,e1,hu⟩
 case inr =>
  rw [e1] at r1 ⊢
  dsimp only at r1 ⊢
  rw [if_pos rfl]
  by_cases hk:x.kind = 2
  ·rw [if_pos hk]
   have hl:=Aa.lst hr (List.mem_of_getElem? hx) hk
   obtain ⟨lx,hlx⟩:∃ l,s.lists[x.lst.toNat]? = some l:=⟨_,List.getElem?_eq_getElem (by omega)⟩
   rw [Q1 hlx]
   have hchk:chk lx.1 lx.2 = 0:=(R3 hr).2.2.1 _ (List.mem_of_getElem? hlx)
   have hg:=Kv hchk
   have r2:=He s u left (by omega)
   have r3:=VN lx.1 lx.2 (u.takeWhile J5) (by omega)
   generalize u.takeWhile J5 = w at *
   generalize u.dropWhile J5 = r at *
   generalize CE lx.1 lx.2 w = code at *
   refine G3 Tryz.func185 80 fun E h0=>?_
   repeat' ((first | refine ⟨C3 [0] [0] r1 rfl rfl rfl rfl rfl ⟨rfl,trivial⟩ rfl rfl rfl rfl rfl ?_⟩ | refine ⟨C3 [0] [0] r2 rfl rfl rfl rfl rfl ⟨rfl,trivial⟩ rfl rfl rfl rfl rfl ?_⟩ | refine B0 r3 ?_ | (refine B1 (x:=x) hx (by omega) ?_) | (refine B1 (x:=lx) hlx (by omega) ?_) | (refine E3 6 ?_;refine F3 (id:=6) ⟨[(0, .ref 0 0),(4, .ref 1 0),(5, .b false),(6, .ref 2 0)],3,[(0,some (.box [.sl 2 (s.lists.map O7), .sl 7 (s.cols.map L5), .str r, .i left])),(1,some (.box ey)),(2,some (.box [.i 2, .i col, .i code, .i 0, .i 0, .v (.slice none 0 0)]))]⟩ ?_ ?_) | (refine E3 7 ?_;refine F3 (id:=7) ⟨[(4, .ref 1 0),(5, .b (decide (0 ≤ code)))],2,[(0,some (.box [.sl 2 (s.lists.map O7), .sl 7 (s.cols.map L5), .str r, .i left])),(1,some (.box [.i 2, .i col, .i code, .i 0, .i 0, .v (.slice none 0 0)]))]⟩ ?_ ?_) |refine A1 ?_|refine S1 ?_|refine Z1 ?_|refine Z2 ?_|(refine And.intro ?_ ?_<;>intro h<;>try first|(exfalso;omega)|exact absurd rfl h)|refine Z3 ?_|refine Z4 ?_|intro el hel hbB|intro el hel|intro ex|refine Z5 ?_|(refine A8 ?_ ?_;exact ⟨by kernel_rfl,by decide⟩)|refine A7 ?_ ?_|exact A6|refine A3 ?_ ?_|exact A2|(refine A0 ?_ ?_ ?_;kernel_rfl;kernel_rfl)) <;> (try (conv=>whnf)))
   all_goals first
    | exact A5 h0 rfl ⟨rfl,rfl,rfl,rfl,trivial⟩ ⟨rfl,rfl,rfl,trivial⟩ rfl rfl rfl
    | exact A5 h0 rfl ⟨rfl,rfl,trivial⟩ ⟨rfl,rfl,trivial⟩ rfl rfl rfl
    | exact D0 (rvs:=[.cell 4 O0, .tmp 5]) (vs:=[_,_]) ⟨1,_,_,rfl,rfl,inferInstance,rfl,rfl,trivial⟩ rfl rfl (B8 (G8 4 _ rfl (K7 _ _ _ _ _)) (A5 h0 rfl ⟨rfl,rfl,trivial⟩ ⟨rfl,trivial⟩ rfl rfl rfl)) rfl
  ·rw [if_neg hk]
   refine G3 Tryz.func185 80 fun E h0=>?_
   repeat' ((first | refine ⟨C3 [0] [0] r1 rfl rfl rfl rfl rfl ⟨rfl,trivial⟩ rfl rfl rfl rfl rfl ?_⟩ | (refine B1 (x:=x) hx (by omega) ?_) |refine A1 ?_|refine S1 ?_|refine Z1 ?_|refine Z2 ?_|(refine And.intro ?_ ?_<;>intro h<;>try first|(exfalso;omega)|exact absurd rfl h)|refine Z3 ?_|refine Z4 ?_|intro el hel hbB|intro el hel|intro ex|refine Z5 ?_|(refine A8 ?_ ?_;exact ⟨by kernel_rfl,by decide⟩)|refine A7 ?_ ?_|exact A6|refine A3 ?_ ?_|exact A2|(refine A0 ?_ ?_ ?_;kernel_rfl;kernel_rfl)) <;> (try (conv=>whnf)))
   all_goals first
    | (exfalso;omega)
    | exact D0 (rvs:=[.cell 4 O0, .tmp 5]) (vs:=[_,_]) ⟨1,_,_,rfl,rfl,inferInstance,rfl,rfl,trivial⟩ rfl rfl (B8 (G8 4 _ rfl (K7 _ _ _ _ _)) (A5 h0 rfl ⟨rfl,rfl,trivial⟩ ⟨rfl,trivial⟩ rfl rfl rfl)) rfl
 rw [e1] at r1 ⊢
 dsimp only at r1 ⊢
 rw [if_neg Bool.false_ne_true]
 have r2:=W0 s t P5 left (by omega) (by decide)
 rcases s4 P5 t with e2 | ⟨u,e2,hu⟩
 case inr =>
  rw [e2] at r2 ⊢
  dsimp only at r2 ⊢
  rw [if_pos rfl]
  have r3:=JK s u left (by omega)
  have hn:=Jk u
  generalize Q5 u = N at *
  obtain ⟨lo,ok,v⟩:=N
  dsimp only at r3 hn ⊢
  cases ok
  ·rw [if_neg Bool.false_ne_true]
   refine G3 Tryz.func185 80 fun E h0=>?_
   repeat' ((first | refine ⟨C3 [0] [0] r1 rfl rfl rfl rfl rfl ⟨rfl,trivial⟩ rfl rfl rfl rfl rfl ?_⟩ | refine ⟨C3 [0] [0] r2 rfl rfl rfl rfl rfl ⟨rfl,trivial⟩ rfl rfl rfl rfl rfl ?_⟩ | refine ⟨C3 [0] [0] r3 rfl rfl rfl rfl rfl ⟨rfl,trivial⟩ rfl rfl rfl rfl rfl ?_⟩ |refine A1 ?_|refine S1 ?_|refine Z1 ?_|refine Z2 ?_|(refine And.intro ?_ ?_<;>intro h<;>try first|(exfalso;omega)|exact absurd rfl h)|refine Z3 ?_|refine Z4 ?_|intro el hel hbB|intro el hel|intro ex|refine Z5 ?_|(refine A8 ?_ ?_;exact ⟨by kernel_rfl,by decide⟩)|refine A7 ?_ ?_|exact A6|refine A3 ?_ ?_|exact A2|(refine A0 ?_ ?_ ?_;kernel_rfl;kernel_rfl)) <;> (try (conv=>whnf)))
   all_goals first
    | exact D0 (rvs:=[.cell 4 O0, .tmp 5]) (vs:=[_,_]) ⟨1,_,_,rfl,rfl,inferInstance,rfl,rfl,trivial⟩ rfl rfl (B8 (G8 4 _ rfl (K7 _ _ _ _ _)) (A5 h0 rfl ⟨rfl,rfl,trivial⟩ ⟨rfl,trivial⟩ rfl rfl rfl)) rfl
  ·rw [if_pos rfl]
   have r4:=W0 s v CW left (by omega) (by decide)
   rcases s4 CW v with e3 | ⟨y,e3,hy⟩
   ·rw [e3] at r4 ⊢
    dsimp only at r4 ⊢
    rw [if_neg Bool.false_ne_true]
    refine G3 Tryz.func185 80 fun E h0=>?_
    repeat' ((first | refine ⟨C3 [0] [0] r1 rfl rfl rfl rfl rfl ⟨rfl,trivial⟩ rfl rfl rfl rfl rfl ?_⟩ | refine ⟨C3 [0] [0] r2 rfl rfl rfl rfl rfl ⟨rfl,trivial⟩ rfl rfl rfl rfl rfl ?_⟩ | refine ⟨C3 [0] [0] r3 rfl rfl rfl rfl rfl ⟨rfl,trivial⟩ rfl rfl rfl rfl rfl ?_⟩ | refine ⟨C3 [0] [0] r4 rfl rfl rfl rfl rfl ⟨rfl,trivial⟩ rfl rfl rfl rfl rfl ?_⟩ |refine A1 ?_|refine S1 ?_|refine Z1 ?_|refine Z2 ?_|(refine And.intro ?_ ?_<;>intro h<;>try first|(exfalso;omega)|exact absurd rfl h)|refine Z3 ?_|refine Z4 ?_|intro el hel hbB|intro el hel|intro ex|refine Z5 ?_|(refine A8 ?_ ?_;exact ⟨by kernel_rfl,by decide⟩)|refine A7 ?_ ?_|exact A6|refine A3 ?_ ?_|exact A2|(refine A0 ?_ ?_ ?_;kernel_rfl;kernel_rfl)) <;> (try (conv=>whnf)))
    all_goals first
     | exact D0 (rvs:=[.cell 4 O0, .tmp 5]) (vs:=[_,_]) ⟨1,_,_,rfl,rfl,inferInstance,rfl,rfl,trivial⟩ rfl rfl (B8 (G8 4 _ rfl (K7 _ _ _ _ _)) (A5 h0 rfl ⟨rfl,rfl,trivial⟩ ⟨rfl,trivial⟩ rfl rfl rfl)) rfl
   ·rw [e3] at r4 ⊢
    dsimp only at r4 ⊢
    rw [if_pos rfl]
    have r5:=JK s y left (by omega)
    generalize Q5 y = M at *
    obtain ⟨hi,ok2,z⟩:=M
    dsimp only at r5 ⊢
    refine G3 Tryz.func185 80 fun E h0=>?_
    repeat' ((first | refine ⟨C3 [0] [0] r1 rfl rfl rfl rfl rfl ⟨rfl,trivial⟩ rfl rfl rfl rfl rfl ?_⟩ | refine ⟨C3 [0] [0] r2 rfl rfl rfl rfl rfl ⟨rfl,trivial⟩ rfl rfl rfl rfl rfl ?_⟩ | refine ⟨C3 [0] [0] r3 rfl rfl rfl rfl rfl ⟨rfl,trivial⟩ rfl rfl rfl rfl rfl ?_⟩ | refine ⟨C3 [0] [0] r4 rfl rfl rfl rfl rfl ⟨rfl,trivial⟩ rfl rfl rfl rfl rfl ?_⟩ | refine ⟨C3 [0] [0] r5 rfl rfl rfl rfl rfl ⟨rfl,trivial⟩ rfl rfl rfl rfl rfl ?_⟩ |refine A1 ?_|refine S1 ?_|refine Z1 ?_|refine Z2 ?_|(refine And.intro ?_ ?_<;>intro h<;>try first|(exfalso;omega)|exact absurd rfl h)|refine Z3 ?_|refine Z4 ?_|intro el hel hbB|intro el hel|intro ex|refine Z5 ?_|(refine A8 ?_ ?_;exact ⟨by kernel_rfl,by decide⟩)|refine A7 ?_ ?_|exact A6|refine A3 ?_ ?_|exact A2|(refine A0 ?_ ?_ ?_;kernel_rfl;kernel_rfl)) <;> (try (conv=>whnf)))
    all_goals first
     | exact D0 (rvs:=[.cell 4 O0, .tmp 5]) (vs:=[_,_]) ⟨1,_,_,rfl,rfl,inferInstance,rfl,rfl,trivial⟩ rfl rfl (B8 (G8 4 _ rfl (K7 _ _ _ _ _)) (A5 h0 rfl ⟨rfl,rfl,trivial⟩ ⟨rfl,trivial⟩ rfl rfl rfl)) rfl
 rw [e2] at r2 ⊢
 dsimp only at r2 ⊢
 rw [if_neg Bool.false_ne_true]
 have r3:=W0 s t m5 left (by omega) (by decide)
 rcases s4 m5 t with e3 | ⟨u,e3,hu⟩
 ·rw [e3] at r3 ⊢
  dsimp only at r3 ⊢
  rw [if_neg Bool.false_ne_true]
  refine G3 Tryz.func185 80 fun E h0=>?_
  repeat' ((first | refine ⟨C3 [0] [0] r1 rfl rfl rfl rfl rfl ⟨rfl,trivial⟩ rfl rfl rfl rfl rfl ?_⟩ | refine ⟨C3 [0] [0] r2 rfl rfl rfl rfl rfl ⟨rfl,trivial⟩ rfl rfl rfl rfl rfl ?_⟩ | refine ⟨C3 [0] [0] r3 rfl rfl rfl rfl rfl ⟨rfl,trivial⟩ rfl rfl rfl rfl rfl ?_⟩ |refine A1 ?_|refine S1 ?_|refine Z1 ?_|refine Z2 ?_|(refine And.intro ?_ ?_<;>intro h<;>try first|(exfalso;omega)|exact absurd rfl h)|refine Z3 ?_|refine Z4 ?_|intro el hel hbB|intro el hel|intro ex|refine Z5 ?_|(refine A8 ?_ ?_;exact ⟨by kernel_rfl,by decide⟩)|refine A7 ?_ ?_|exact A6|refine A3 ?_ ?_|exact A2|(refine A0 ?_ ?_ ?_;kernel_rfl;kernel_rfl)) <;> (try (conv=>whnf)))
  all_goals first
   | exact D0 (rvs:=[.cell 4 O0, .tmp 5]) (vs:=[_,_]) ⟨1,_,_,rfl,rfl,inferInstance,rfl,rfl,trivial⟩ rfl rfl (B8 (G8 4 _ rfl (K7 _ _ _ _ _)) (A5 h0 rfl ⟨rfl,rfl,trivial⟩ ⟨rfl,trivial⟩ rfl rfl rfl)) rfl
 ·rw [e3] at r3 ⊢
  dsimp only at r3 ⊢
  rw [if_pos rfl]
  refine G3 Tryz.func185 80 fun E h0=>?_
  repeat' ((first | refine ⟨C3 [0] [0] r1 rfl rfl rfl rfl rfl ⟨rfl,trivial⟩ rfl rfl rfl rfl rfl ?_⟩ | refine ⟨C3 [0] [0] r2 rfl rfl rfl rfl rfl ⟨rfl,trivial⟩ rfl rfl rfl rfl rfl ?_⟩ | refine ⟨C3 [0] [0] r3 rfl rfl rfl rfl rfl ⟨rfl,trivial⟩ rfl rfl rfl rfl rfl ?_⟩ |refine A1 ?_|refine S1 ?_|refine Z1 ?_|refine Z2 ?_|(refine And.intro ?_ ?_<;>intro h<;>try first|(exfalso;omega)|exact absurd rfl h)|refine Z3 ?_|refine Z4 ?_|intro el hel hbB|intro el hel|intro ex|refine Z5 ?_|(refine A8 ?_ ?_;exact ⟨by kernel_rfl,by decide⟩)|refine A7 ?_ ?_|exact A6|refine A3 ?_ ?_|exact A2|(refine A0 ?_ ?_ ?_;kernel_rfl;kernel_rfl)) <;> (try (conv=>whnf)))
  all_goals first
   | exact D0 (rvs:=[.cell 4 O0, .tmp 5]) (vs:=[_,_]) ⟨1,_,_,rfl,rfl,inferInstance,rfl,rfl,trivial⟩ rfl rfl (B8 (G8 4 _ rfl (K7 _ _ _ _ _)) (A5 h0 rfl ⟨rfl,rfl,trivial⟩ ⟨rfl,trivial⟩ rfl rfl rfl)) rfl
end Go.Proofs.YthkklceofokkmaaGreatDoor
namespace Go.Proofs.YthkklceofokkmaaGreatDoor
open Go Go.Av
attribute [local irreducible] E5 B7 E6 E7 DQ E8 F0 St.le B3 B5
set_option maxRecDepth 100000
set_option maxHeartbeats 8000000 in
theorem Vh (s:B2) (d:Nat) (hd:d ≤ 10) (f:Int → List UInt8 → Gz) (hf:∀ l u,(f l u).t.length ≤ u.length ∧ l - wd d ≤ (f l u).left ∧ (f l u).left ≤ l) (t:List UInt8) (left:Int) (hl:-1000000 ≤ left - 2 * wd d) (hl2:left ≤ 1000000) (ht:t.length ≤ 140737488355328)
  (ih:∀ (left:Int) (t:List UInt8), -1000000 ≤ left - wd d → left ≤ 1000000 → t.length ≤ 140737488355328 → B5 Tryz.prog 165 1 (DM s t left) [.ref 0 0, .i (((d + 1:Nat):Int) - 1)] 1 (DM s (f left t).t (f left t).left) (.tup [L8 (f left t).c, .b (f left t).ok])) :
  B5 Tryz.prog 183 1 (DM s t left) [.ref 0 0, .i (d + 1:Nat)] 1 (DM s (u4 f left t).t (u4 f left t).left) (.tup [L8 (u4 f left t).c, .b (u4 f left t).ok]):=by
 have hw:=LB d
 unfold u4
 have r1:=ih left t (by omega) hl2 ht
 obtain ⟨k1,k2,k5⟩:=hf left t
 generalize f left t = a at *
 obtain ⟨ac,aok,at',al⟩:=a
 dsimp only at *
 cases aok
 ·rw [if_neg Bool.false_ne_true]
  refine G3 Tryz.func183 46 fun E h0=>?_
  repeat' ((first | refine ⟨C3 [0] [0] r1 rfl rfl rfl rfl rfl ⟨rfl,trivial⟩ rfl rfl rfl rfl rfl ?_⟩ |refine A1 ?_|refine S1 ?_|refine Z1 ?_|refine Z2 ?_|(refine And.intro ?_ ?_<;>intro h<;>try first|(exfalso;omega)|exact absurd rfl h)|refine Z3 ?_|refine Z4 ?_|intro el hel hbB|intro el hel|intro ex|refine Z5 ?_|(refine A8 ?_ ?_;exact ⟨by kernel_rfl,by decide⟩)|refine A7 ?_ ?_|exact A6|refine A3 ?_ ?_|exact A2|(refine A0 ?_ ?_ ?_;kernel_rfl;kernel_rfl)) <;> (try (conv=>whnf)))
  all_goals first
   | exact D0 (rvs:=[.cell 4 O0, .tmp 5]) (vs:=[_,_]) ⟨1,_,_,rfl,rfl,inferInstance,rfl,rfl,trivial⟩ rfl rfl (A5 h0 rfl ⟨rfl,rfl,trivial⟩ ⟨rfl,trivial⟩ rfl rfl rfl) rfl
 rw [if_pos rfl]
 have r2:=W0 s at' S9 al (by omega) (by decide)
 rcases s4 S9 at' with e2 | ⟨u,e2,hu⟩
 case inr =>
  rw [e2] at r2 ⊢
  dsimp only at r2 ⊢
  rw [if_pos rfl]
  have r3:=ih al u (by omega) (by omega) (by omega)
  obtain ⟨k3,k4,k6⟩:=hf al u
  generalize f al u = b at *
  obtain ⟨bc,bok,bt,bl⟩:=b
  dsimp only at *
  cases bok
  ·rw [if_neg Bool.false_ne_true]
   refine G3 Tryz.func183 46 fun E h0=>?_
   repeat' ((first | refine ⟨C3 [0] [0] r1 rfl rfl rfl rfl rfl ⟨rfl,trivial⟩ rfl rfl rfl rfl rfl ?_⟩ | refine ⟨C3 [0] [0] r2 rfl rfl rfl rfl rfl ⟨rfl,trivial⟩ rfl rfl rfl rfl rfl ?_⟩ | refine ⟨C3 [0] [0] r3 rfl rfl rfl rfl rfl ⟨rfl,trivial⟩ rfl rfl rfl rfl rfl ?_⟩ | (refine E3 11 ?_;refine CB (id:=11) ⟨[(4, .ref 1 0),(5, .b false)],2,[(0,some (.box [.sl 2 (s.lists.map O7), .sl 7 (s.cols.map L5), .str bt, .i bl])),(1,some (.box [.i 5, .i 0, .i 0, .i 0, .i 0, .sl 6 [P4 ac,P4 bc]]))]⟩ ?_ ?_) |refine A1 ?_|refine S1 ?_|refine Z1 ?_|refine Z2 ?_|(refine And.intro ?_ ?_<;>intro h<;>try first|(exfalso;omega)|exact absurd rfl h)|refine Z3 ?_|refine Z4 ?_|intro el hel hbB|intro el hel|intro ex|refine Z5 ?_|(refine A8 ?_ ?_;exact ⟨by kernel_rfl,by decide⟩)|refine A7 ?_ ?_|exact A6|refine A3 ?_ ?_|exact A2|(refine A0 ?_ ?_ ?_;kernel_rfl;kernel_rfl)) <;> (try (conv=>whnf)))
   all_goals first
    | exact A5 h0 rfl ⟨rfl,rfl,trivial⟩ ⟨rfl,rfl,trivial⟩ rfl rfl rfl
    | exact D0 (rvs:=[.cell 4 O0, .tmp 5]) (vs:=[_,_]) ⟨1,_,_,rfl,rfl,inferInstance,rfl,rfl,trivial⟩ rfl rfl (B8 (G8 4 _ rfl (Fh 5 ac bc)) (A5 h0 rfl ⟨rfl,rfl,trivial⟩ ⟨rfl,trivial⟩ rfl rfl rfl)) rfl
  ·rw [if_pos rfl]
   have r4:=W0 s bt [41] bl (by omega) (by decide)
   generalize C7 [41] bt = q at *
   obtain ⟨qt,qb⟩:=q
   dsimp only at *
   refine G3 Tryz.func183 46 fun E h0=>?_
   repeat' ((first | refine ⟨C3 [0] [0] r1 rfl rfl rfl rfl rfl ⟨rfl,trivial⟩ rfl rfl rfl rfl rfl ?_⟩ | refine ⟨C3 [0] [0] r2 rfl rfl rfl rfl rfl ⟨rfl,trivial⟩ rfl rfl rfl rfl rfl ?_⟩ | refine ⟨C3 [0] [0] r3 rfl rfl rfl rfl rfl ⟨rfl,trivial⟩ rfl rfl rfl rfl rfl ?_⟩ | refine ⟨C3 [0] [0] r4 rfl rfl rfl rfl rfl ⟨rfl,trivial⟩ rfl rfl rfl rfl rfl ?_⟩ | (refine E3 11 ?_;refine CB (id:=11) ⟨[(4, .ref 1 0),(5, .b qb)],2,[(0,some (.box [.sl 2 (s.lists.map O7), .sl 7 (s.cols.map L5), .str qt, .i bl])),(1,some (.box [.i 5, .i 0, .i 0, .i 0, .i 0, .sl 6 [P4 ac,P4 bc]]))]⟩ ?_ ?_) |refine A1 ?_|refine S1 ?_|refine Z1 ?_|refine Z2 ?_|(refine And.intro ?_ ?_<;>intro h<;>try first|(exfalso;omega)|exact absurd rfl h)|refine Z3 ?_|refine Z4 ?_|intro el hel hbB|intro el hel|intro ex|refine Z5 ?_|(refine A8 ?_ ?_;exact ⟨by kernel_rfl,by decide⟩)|refine A7 ?_ ?_|exact A6|refine A3 ?_ ?_|exact A2|(refine A0 ?_ ?_ ?_;kernel_rfl;kernel_rfl)) <;> (try (conv=>whnf)))
   all_goals first
    | exact A5 h0 rfl ⟨rfl,rfl,trivial⟩ ⟨rfl,rfl,trivial⟩ rfl rfl rfl
    | exact D0 (rvs:=[.cell 4 O0, .tmp 5]) (vs:=[_,_]) ⟨1,_,_,rfl,rfl,inferInstance,rfl,rfl,trivial⟩ rfl rfl (B8 (G8 4 _ rfl (Fh 5 ac bc)) (A5 h0 rfl ⟨rfl,rfl,trivial⟩ ⟨rfl,trivial⟩ rfl rfl rfl)) rfl
 rw [e2] at r2 ⊢
 dsimp only at r2 ⊢
 rw [if_neg Bool.false_ne_true]
 have r5:=W0 s at' d6 al (by omega) (by decide)
 rcases s4 d6 at' with e3 | ⟨u,e3,hu⟩
 ·rw [e3] at r5 ⊢
  dsimp only at r5 ⊢
  rw [if_neg Bool.false_ne_true]
  refine G3 Tryz.func183 46 fun E h0=>?_
  repeat' ((first | refine ⟨C3 [0] [0] r1 rfl rfl rfl rfl rfl ⟨rfl,trivial⟩ rfl rfl rfl rfl rfl ?_⟩ | refine ⟨C3 [0] [0] r2 rfl rfl rfl rfl rfl ⟨rfl,trivial⟩ rfl rfl rfl rfl rfl ?_⟩ | refine ⟨C3 [0] [0] r5 rfl rfl rfl rfl rfl ⟨rfl,trivial⟩ rfl rfl rfl rfl rfl ?_⟩ |refine A1 ?_|refine S1 ?_|refine Z1 ?_|refine Z2 ?_|(refine And.intro ?_ ?_<;>intro h<;>try first|(exfalso;omega)|exact absurd rfl h)|refine Z3 ?_|refine Z4 ?_|intro el hel hbB|intro el hel|intro ex|refine Z5 ?_|(refine A8 ?_ ?_;exact ⟨by kernel_rfl,by decide⟩)|refine A7 ?_ ?_|exact A6|refine A3 ?_ ?_|exact A2|(refine A0 ?_ ?_ ?_;kernel_rfl;kernel_rfl)) <;> (try (conv=>whnf)))
  all_goals first
   | exact D0 (rvs:=[.cell 4 O0, .tmp 5]) (vs:=[_,_]) ⟨1,_,_,rfl,rfl,inferInstance,rfl,rfl,trivial⟩ rfl rfl (B8 (G8 4 _ rfl (K7 6 0 0 0 0)) (A5 h0 rfl ⟨rfl,rfl,trivial⟩ ⟨rfl,trivial⟩ rfl rfl rfl)) rfl
 rw [e3] at r5 ⊢
 dsimp only at r5 ⊢
 rw [if_pos rfl]
 have r3:=ih al u (by omega) (by omega) (by omega)
 obtain ⟨k3,k4,k6⟩:=hf al u
 generalize f al u = b at *
 obtain ⟨bc,bok,bt,bl⟩:=b
 dsimp only at *
 cases bok
 ·rw [if_neg Bool.false_ne_true]
  refine G3 Tryz.func183 46 fun E h0=>?_
  repeat' ((first | refine ⟨C3 [0] [0] r1 rfl rfl rfl rfl rfl ⟨rfl,trivial⟩ rfl rfl rfl rfl rfl ?_⟩ | refine ⟨C3 [0] [0] r2 rfl rfl rfl rfl rfl ⟨rfl,trivial⟩ rfl rfl rfl rfl rfl ?_⟩ | refine ⟨C3 [0] [0] r5 rfl rfl rfl rfl rfl ⟨rfl,trivial⟩ rfl rfl rfl rfl rfl ?_⟩ | refine ⟨C3 [0] [0] r3 rfl rfl rfl rfl rfl ⟨rfl,trivial⟩ rfl rfl rfl rfl rfl ?_⟩ | (refine E3 11 ?_;refine CB (id:=11) ⟨[(4, .ref 1 0),(5, .b false)],2,[(0,some (.box [.sl 2 (s.lists.map O7), .sl 7 (s.cols.map L5), .str bt, .i bl])),(1,some (.box [.i 6, .i 0, .i 0, .i 0, .i 0, .sl 6 [P4 ac,P4 bc]]))]⟩ ?_ ?_) |refine A1 ?_|refine S1 ?_|refine Z1 ?_|refine Z2 ?_|(refine And.intro ?_ ?_<;>intro h<;>try first|(exfalso;omega)|exact absurd rfl h)|refine Z3 ?_|refine Z4 ?_|intro el hel hbB|intro el hel|intro ex|refine Z5 ?_|(refine A8 ?_ ?_;exact ⟨by kernel_rfl,by decide⟩)|refine A7 ?_ ?_|exact A6|refine A3 ?_ ?_|exact A2|(refine A0 ?_ ?_ ?_;kernel_rfl;kernel_rfl)) <;> (try (conv=>whnf)))
  all_goals first
   | exact A5 h0 rfl ⟨rfl,rfl,trivial⟩ ⟨rfl,rfl,trivial⟩ rfl rfl rfl
   | exact D0 (rvs:=[.cell 4 O0, .tmp 5]) (vs:=[_,_]) ⟨1,_,_,rfl,rfl,inferInstance,rfl,rfl,trivial⟩ rfl rfl (B8 (G8 4 _ rfl (Fh 6 ac bc)) (A5 h0 rfl ⟨rfl,rfl,trivial⟩ ⟨rfl,trivial⟩ rfl rfl rfl)) rfl
 ·rw [if_pos rfl]
  have r4:=W0 s bt [41] bl (by omega) (by decide)
  generalize C7 [41] bt = q at *
  obtain ⟨qt,qb⟩:=q
  dsimp only at *
  refine G3 Tryz.func183 46 fun E h0=>?_
  repeat' ((first | refine ⟨C3 [0] [0] r1 rfl rfl rfl rfl rfl ⟨rfl,trivial⟩ rfl rfl rfl rfl rfl ?_⟩ | refine ⟨C3 [0] [0] r2 rfl rfl rfl rfl rfl ⟨rfl,trivial⟩ rfl rfl rfl rfl rfl ?_⟩ | refine ⟨C3 [0] [0] r5 rfl rfl rfl rfl rfl ⟨rfl,trivial⟩ rfl rfl rfl rfl rfl ?_⟩ | refine ⟨C3 [0] [0] r3 rfl rfl rfl rfl rfl ⟨rfl,trivial⟩ rfl rfl rfl rfl rfl ?_⟩ | refine ⟨C3 [0] [0] r4 rfl rfl rfl rfl rfl ⟨rfl,trivial⟩ rfl rfl rfl rfl rfl ?_⟩ | (refine E3 11 ?_;refine CB (id:=11) ⟨[(4, .ref 1 0),(5, .b qb)],2,[(0,some (.box [.sl 2 (s.lists.map O7), .sl 7 (s.cols.map L5), .str qt, .i bl])),(1,some (.box [.i 6, .i 0, .i 0, .i 0, .i 0, .sl 6 [P4 ac,P4 bc]]))]⟩ ?_ ?_) |refine A1 ?_|refine S1 ?_|refine Z1 ?_|refine Z2 ?_|(refine And.intro ?_ ?_<;>intro h<;>try first|(exfalso;omega)|exact absurd rfl h)|refine Z3 ?_|refine Z4 ?_|intro el hel hbB|intro el hel|intro ex|refine Z5 ?_|(refine A8 ?_ ?_;exact ⟨by kernel_rfl,by decide⟩)|refine A7 ?_ ?_|exact A6|refine A3 ?_ ?_|exact A2|(refine A0 ?_ ?_ ?_;kernel_rfl;kernel_rfl)) <;> (try (conv=>whnf)))
  all_goals first
   | exact A5 h0 rfl ⟨rfl,rfl,trivial⟩ ⟨rfl,rfl,trivial⟩ rfl rfl rfl
   | exact D0 (rvs:=[.cell 4 O0, .tmp 5]) (vs:=[_,_]) ⟨1,_,_,rfl,rfl,inferInstance,rfl,rfl,trivial⟩ rfl rfl (B8 (G8 4 _ rfl (Fh 6 ac bc)) (A5 h0 rfl ⟨rfl,rfl,trivial⟩ ⟨rfl,trivial⟩ rfl rfl rfl)) rfl
theorem Xw {α:Type} (p:α → Bool):∀ (l:List α) (k:Int),0 ≤ k → 0 ≤ K2 p l k → ∃ x,l[(K2 p l k - k).toNat]? = some x
 | l,k,h0,h=>by
   rcases Rk p l k with h1 | ⟨h1,h2⟩
   ·omega
   ·exact ⟨_,List.getElem?_eq_getElem (by omega)⟩
set_option maxHeartbeats 8000000 in
theorem Tm (s:B2) (hr:C8 s = 0):∀ (d:Nat),d ≤ 10 → ∀ (left:Int) (t:List UInt8), -1000000 ≤ left - wd d → left ≤ 1000000 → t.length ≤ 140737488355328 → B5 Tryz.prog 165 1 (DM s t left) [.ref 0 0, .i d] 1 (DM s (M3 s d left t).t (M3 s d left t).left) (.tup [L8 (M3 s d left t).c, .b (M3 s d left t).ok]):=by
 intro d
 induction d with
 | zero =>
   intro _ left t hl hl2 ht
   unfold M3
   unfold wd at hl
   refine G3 Tryz.func165 66 fun E h0=>?_
   repeat' ((first|refine A1 ?_|refine S1 ?_|refine Z1 ?_|refine Z2 ?_|(refine And.intro ?_ ?_<;>intro h<;>try first|(exfalso;omega)|exact absurd rfl h)|refine Z3 ?_|refine Z4 ?_|intro el hel hbB|intro el hel|intro ex|refine Z5 ?_|(refine A8 ?_ ?_;exact ⟨by kernel_rfl,by decide⟩)|refine A7 ?_ ?_|exact A6|refine A3 ?_ ?_|exact A2|(refine A0 ?_ ?_ ?_;kernel_rfl;kernel_rfl)) <;> (try (conv=>whnf)))
   all_goals first
    | exact D0 (rvs:=[.cell 4 O0, .tmp 5]) (vs:=[_,_]) ⟨1,_,_,rfl,rfl,inferInstance,rfl,rfl,trivial⟩ rfl rfl (B8 (G8 4 _ rfl (K7 0 0 0 0 0)) (A5 h0 rfl ⟨rfl,rfl,trivial⟩ ⟨rfl,trivial⟩ rfl rfl rfl)) rfl
 | succ d ih =>
   intro hd left t hl hl2 ht
   have e1:(((d + 1:Nat):Int) - 1) = (d:Int):=by omega
   have ih:=ih (by omega)
   rw [← e1] at ih
   unfold wd at hl
   have hw:=LB d
   have hpair:=fun u (hu:u.length ≤ t.length)=>Vh s d (by omega) (fun l u=>M3 s d l u) (Ry s d) u (left - 1) (by omega) (by omega) (by omega) ih
   unfold M3
   by_cases h1:left - 1 < 0
   ·rw [if_pos h1]
    refine G3 Tryz.func165 66 fun E h0=>?_
    repeat' ((first|refine A1 ?_|refine S1 ?_|refine Z1 ?_|refine Z2 ?_|(refine And.intro ?_ ?_<;>intro h<;>try first|(exfalso;omega)|exact absurd rfl h)|refine Z3 ?_|refine Z4 ?_|intro el hel hbB|intro el hel|intro ex|refine Z5 ?_|(refine A8 ?_ ?_;exact ⟨by kernel_rfl,by decide⟩)|refine A7 ?_ ?_|exact A6|refine A3 ?_ ?_|exact A2|(refine A0 ?_ ?_ ?_;kernel_rfl;kernel_rfl)) <;> (try (conv=>whnf)))
    all_goals first
     | exact D0 (rvs:=[.cell 4 O0, .tmp 5]) (vs:=[_,_]) ⟨1,_,_,rfl,rfl,inferInstance,rfl,rfl,trivial⟩ rfl rfl (B8 (G8 4 _ rfl (K7 0 0 0 0 0)) (A5 h0 rfl ⟨rfl,rfl,trivial⟩ ⟨rfl,trivial⟩ rfl rfl rfl)) rfl
     | (exfalso;omega)
   rw [if_neg h1]
   have r1:=W0 s t [40] (left - 1) (by omega) (by decide)
   rcases s4 [40] t with e2 | ⟨u,e2,hu⟩
   case inr =>
    rw [e2] at r1 ⊢
    dsimp only at r1 ⊢
    rw [if_pos rfl]
    have r2:=hpair u hu
    generalize u4 (fun l u=>M3 s d l u) (left - 1) u = a at *
    obtain ⟨ac,aok,at',al⟩:=a
    dsimp only at *
    refine G3 Tryz.func165 66 fun E h0=>?_
    repeat' ((first | refine ⟨C3 [0] [0] r1 rfl rfl rfl rfl rfl ⟨rfl,trivial⟩ rfl rfl rfl rfl rfl ?_⟩ | refine ⟨C3 [0] [0] r2 rfl rfl rfl rfl rfl ⟨rfl,trivial⟩ rfl rfl rfl rfl rfl ?_⟩ |refine A1 ?_|refine S1 ?_|refine Z1 ?_|refine Z2 ?_|(refine And.intro ?_ ?_<;>intro h<;>try first|(exfalso;omega)|exact absurd rfl h)|refine Z3 ?_|refine Z4 ?_|intro el hel hbB|intro el hel|intro ex|refine Z5 ?_|(refine A8 ?_ ?_;exact ⟨by kernel_rfl,by decide⟩)|refine A7 ?_ ?_|exact A6|refine A3 ?_ ?_|exact A2|(refine A0 ?_ ?_ ?_;kernel_rfl;kernel_rfl)) <;> (try (conv=>whnf)))
    all_goals first
     | exact D0 (rvs:=[.cell 4 O0, .tmp 5]) (vs:=[_,_]) ⟨1,_,_,rfl,rfl,inferInstance,rfl,rfl,trivial⟩ rfl rfl (A5 h0 rfl ⟨rfl,rfl,trivial⟩ ⟨rfl,trivial⟩ rfl rfl rfl) rfl
     | (exfalso;omega)
   clear hpair
   rw [e2] at r1 ⊢
   dsimp only at r1 ⊢
   rw [if_neg Bool.false_ne_true]
   have r2:=W0 s t d9 (left - 1) (by omega) (by decide)
   rcases s4 d9 t with e3 | ⟨u,e3,hu⟩
   case inr =>
    rw [e3] at r2 ⊢
    dsimp only at r2 ⊢
    rw [if_pos rfl]
    have r3:=ih (left - 1) u (by omega) (by omega) (by omega)
    generalize M3 s d (left - 1) u = a at *
    obtain ⟨ac,aok,at',al⟩:=a
    dsimp only at *
    refine G3 Tryz.func165 66 fun E h0=>?_
    repeat' ((first | refine ⟨C3 [0] [0] r1 rfl rfl rfl rfl rfl ⟨rfl,trivial⟩ rfl rfl rfl rfl rfl ?_⟩ | refine ⟨C3 [0] [0] r2 rfl rfl rfl rfl rfl ⟨rfl,trivial⟩ rfl rfl rfl rfl rfl ?_⟩ | refine ⟨C3 [0] [0] r3 rfl rfl rfl rfl rfl ⟨rfl,trivial⟩ rfl rfl rfl rfl rfl ?_⟩ |refine A1 ?_|refine S1 ?_|refine Z1 ?_|refine Z2 ?_|(refine And.intro ?_ ?_<;>intro h<;>try first|(exfalso;omega)|exact absurd rfl h)|refine Z3 ?_|refine Z4 ?_|intro el hel hbB|intro el hel|intro ex|refine Z5 ?_|(refine A8 ?_ ?_;exact ⟨by kernel_rfl,by decide⟩)|refine A7 ?_ ?_|exact A6|refine A3 ?_ ?_|exact A2|(refine A0 ?_ ?_ ?_;kernel_rfl;kernel_rfl)) <;> (try (conv=>whnf)))
    all_goals first
     | exact D0 (rvs:=[.cell 4 O0, .tmp 5]) (vs:=[_,_]) ⟨1,_,_,rfl,rfl,inferInstance,rfl,rfl,trivial⟩ rfl rfl (B8 (G8 4 _ rfl (Vg 7 ac)) (A5 h0 rfl ⟨rfl,rfl,trivial⟩ ⟨rfl,trivial⟩ rfl rfl rfl)) rfl
     | (exfalso;omega)
   rw [e3] at r2 ⊢
   dsimp only at r2 ⊢
   rw [if_neg Bool.false_ne_true]
   have r3:=He s t (left - 1) (by omega)
   have hdl:=T8 J5 t
   generalize t.takeWhile J5 = w at *
   generalize t.dropWhile J5 = r at *
   by_cases h2:w = CG
   ·rw [if_pos h2]
    subst h2
    refine G3 Tryz.func165 66 fun E h0=>?_
    repeat' ((first | refine ⟨C3 [0] [0] r1 rfl rfl rfl rfl rfl ⟨rfl,trivial⟩ rfl rfl rfl rfl rfl ?_⟩ | refine ⟨C3 [0] [0] r2 rfl rfl rfl rfl rfl ⟨rfl,trivial⟩ rfl rfl rfl rfl rfl ?_⟩ | refine ⟨C3 [0] [0] r3 rfl rfl rfl rfl rfl ⟨rfl,trivial⟩ rfl rfl rfl rfl rfl ?_⟩ |refine A1 ?_|refine S1 ?_|refine Z1 ?_|refine Z2 ?_|(refine And.intro ?_ ?_<;>intro h<;>try first|(exfalso;omega)|exact absurd rfl h)|refine Z3 ?_|refine Z4 ?_|intro el hel hbB|intro el hel|intro ex|refine Z5 ?_|(refine A8 ?_ ?_;exact ⟨by kernel_rfl,by decide⟩)|refine A7 ?_ ?_|exact A6|refine A3 ?_ ?_|exact A2|(refine A0 ?_ ?_ ?_;kernel_rfl;kernel_rfl)) <;> (try (conv=>whnf)))
    all_goals first
     | (exfalso;omega)
     | (exfalso;exact absurd rfl (by assumption))
     | exact D0 (rvs:=[.cell 4 O0, .tmp 5]) (vs:=[_,_]) ⟨1,_,_,rfl,rfl,inferInstance,rfl,rfl,trivial⟩ rfl rfl (B8 (G8 4 _ rfl (K7 1 0 0 0 0)) (A5 h0 rfl ⟨rfl,rfl,trivial⟩ ⟨rfl,trivial⟩ rfl rfl rfl)) rfl
   rw [if_neg h2]
   have r4:=Dl s w
   have hidx:=Xw (fun c:G9=>decide (c.name = w)) s.cols 0 (Int.le_refl _)
   rw [Int.sub_zero] at hidx
   unfold J3 at *
   generalize K2 (fun c:G9=>decide (c.name = w)) s.cols 0 = col at *
   by_cases h3:col < 0
   ·rw [if_pos h3]
    refine G3 Tryz.func165 66 fun E h0=>?_
    repeat' ((first | refine ⟨C3 [0] [0] r1 rfl rfl rfl rfl rfl ⟨rfl,trivial⟩ rfl rfl rfl rfl rfl ?_⟩ | refine ⟨C3 [0] [0] r2 rfl rfl rfl rfl rfl ⟨rfl,trivial⟩ rfl rfl rfl rfl rfl ?_⟩ | refine ⟨C3 [0] [0] r3 rfl rfl rfl rfl rfl ⟨rfl,trivial⟩ rfl rfl rfl rfl rfl ?_⟩ | refine B0 r4 ?_ |refine A1 ?_|refine S1 ?_|refine Z1 ?_|refine Z2 ?_|(refine And.intro ?_ ?_<;>intro h<;>try first|(exfalso;omega)|exact absurd rfl h)|refine Z3 ?_|refine Z4 ?_|intro el hel hbB|intro el hel|intro ex|refine Z5 ?_|(refine A8 ?_ ?_;exact ⟨by kernel_rfl,by decide⟩)|refine A7 ?_ ?_|exact A6|refine A3 ?_ ?_|exact A2|(refine A0 ?_ ?_ ?_;kernel_rfl;kernel_rfl)) <;> (try (conv=>whnf)))
    all_goals first
     | (exfalso;omega)
     | (exfalso;exact absurd (by assumption) h2)
     | exact D0 (rvs:=[.cell 4 O0, .tmp 5]) (vs:=[_,_]) ⟨1,_,_,rfl,rfl,inferInstance,rfl,rfl,trivial⟩ rfl rfl (B8 (G8 4 _ rfl (K7 0 0 0 0 0)) (A5 h0 rfl ⟨rfl,rfl,trivial⟩ ⟨rfl,trivial⟩ rfl rfl rfl)) rfl
   ·rw [if_neg h3]
    obtain ⟨x,hx⟩:=hidx (by omega)
    have r5:=Tl s hr r col (left - 1) x hx (by omega) (by omega)
    generalize k7 s col r = a at *
    obtain ⟨ac,aok,at'⟩:=a
    dsimp only at *
    refine G3 Tryz.func165 66 fun E h0=>?_
    repeat' ((first | refine ⟨C3 [0] [0] r1 rfl rfl rfl rfl rfl ⟨rfl,trivial⟩ rfl rfl rfl rfl rfl ?_⟩ | refine ⟨C3 [0] [0] r2 rfl rfl rfl rfl rfl ⟨rfl,trivial⟩ rfl rfl rfl rfl rfl ?_⟩ | refine ⟨C3 [0] [0] r3 rfl rfl rfl rfl rfl ⟨rfl,trivial⟩ rfl rfl rfl rfl rfl ?_⟩ | refine B0 r4 ?_ | refine ⟨C3 [0] [0] r5 rfl rfl rfl rfl rfl ⟨rfl,trivial⟩ rfl rfl rfl rfl rfl ?_⟩ |refine A1 ?_|refine S1 ?_|refine Z1 ?_|refine Z2 ?_|(refine And.intro ?_ ?_<;>intro h<;>try first|(exfalso;omega)|exact absurd rfl h)|refine Z3 ?_|refine Z4 ?_|intro el hel hbB|intro el hel|intro ex|refine Z5 ?_|(refine A8 ?_ ?_;exact ⟨by kernel_rfl,by decide⟩)|refine A7 ?_ ?_|exact A6|refine A3 ?_ ?_|exact A2|(refine A0 ?_ ?_ ?_;kernel_rfl;kernel_rfl)) <;> (try (conv=>whnf)))
    all_goals first
     | (exfalso;omega)
     | (exfalso;exact absurd (by assumption) h2)
     | exact D0 (rvs:=[.cell 4 O0, .tmp 5]) (vs:=[_,_]) ⟨1,_,_,rfl,rfl,inferInstance,rfl,rfl,trivial⟩ rfl rfl (A5 h0 rfl ⟨rfl,rfl,trivial⟩ ⟨rfl,trivial⟩ rfl rfl rfl) rfl
end Go.Proofs.YthkklceofokkmaaGreatDoor
namespace Go.Proofs.YthkklceofokkmaaGreatDoor
open Go Go.Av
attribute [local irreducible] E5 B7 E6 E7 DQ E8 F0 St.le B3 B5
set_option maxRecDepth 100000
theorem LJ:∀ (r pre:List Code),scan pre r = none → ∀ c ∈ r,C9 c.name = true
 | [],_,_,c,hc=>by cases hc
 | x :: r,pre,h,c,hc=>by
   unfold scan at h
   split at h
   ·cases h
   ·rename_i hn
    split at h
    ·cases h
    ·split at h
     ·cases h
     ·rcases List.mem_cons.1 hc with rfl | hc
      ·cases hb:C9 c.name
       ·exact absurd hb hn
       ·rfl
      ·exact LJ r _ h c hc
theorem Hn:∀ (r pre:List Code),scan pre r ≠ some 0
 | [],_=>by unfold scan;exact fun h=>by cases h
 | x :: r,pre=>by
   unfold scan
   split
   ·exact fun h=>by cases h
   ·split
    ·exact fun h=>by cases h
    ·split
     ·exact fun h=>by cases h
     ·exact Hn r _
theorem Xx {s:B2} {c:A4} (h:K0 s c = 0) (ho:¬ (c.op = 2 ∨ c.op = 3 ∨ c.op = 4)):c.col = 0:=by
 unfold K0 at h
 by_cases h1:c.op < 1 ∨ 7 < c.op
 ·rw [if_pos h1] at h;cases h
 rw [if_neg h1] at h
 split at h
 ·cases h
 ·rename_i h2
  omega
theorem Xy {s:B2} (h:C8 s = 0):0 < s.cols.length:=by
 obtain ⟨_,_,_,_,h5⟩:=R3 h
 cases hc:s.cols with
 | nil=>rw [hc] at h5;cases h5
 | cons a r=>simp
theorem NI {nm:List UInt8} {cs:List Code} (h:chk nm cs = 0):∀ c ∈ cs,C9 c.name = true:=by
 unfold chk at h
 split at h
 ·cases h
 split at h
 ·cases h
 split at h
 ·cases h
 cases hs:scan [] cs with
 | some e =>
   rw [hs] at h
   dsimp only at h
   subst h
   exact absurd hs (Hn cs [])
 | none=>exact LJ cs [] hs
theorem T9 {l:List UInt8} (h:C9 l = true):l.length ≤ 16:=by
 unfold C9 at h
 simp only [Bool.and_eq_true,decide_eq_true_eq] at h
 exact h.1.1.1
theorem Pn {s:B2} (hr:C8 s = 0) {i:Nat} {c:G9} (hc:s.cols[i]? = some c):C9 c.name = true:=by
 obtain ⟨_,_,_,h4,_⟩:=R3 hr
 have:=h4 i c hc
 unfold colE at this
 split at this
 ·cases this
 ·rename_i hn
  cases hb:C9 c.name
  ·exact absurd hb hn
  ·rfl
theorem Ge {s:B2} (hr:C8 s = 0) {l:CL} (hl:l ∈ s.lists) {i:Nat} {c:Code} (hc:l.2[i]? = some c):C9 c.name = true :=
 NI ((R3 hr).2.2.1 l hl) c (List.mem_of_getElem? hc)
theorem Ho:∀ {l:List A4} {k:A4},k ∈ l → I8 k ≤ V9 l
 | x :: r,k,h=>by
   unfold V9
   rcases List.mem_cons.1 h with rfl | h
   ·omega
   ·have:=Ho h;omega
theorem Po:∀ {l:List A4} {x y:A4},l[0]? = some x → l[1]? = some y → I8 x + I8 y ≤ V9 l
 | a :: b :: r,x,y,h0,h1=>by
   simp at h0 h1
   subst h0 h1
   unfold V9 V9
   omega
 | [_],x,y,_,h1=>by simp at h1
 | [],x,y,h0,_=>by simp at h0
theorem Fi (s:B2) (c:A4):D6 s c = if c.op = 2 then R4 s c.col ++ U4 ++ An s c.col c.code
  else if c.op = 3 then R4 s c.col ++ P5 ++ Lib.itoa c.lo ++ CW ++ Lib.itoa c.hi
  else if c.op = 4 then R4 s c.col ++ m5
  else if c.op = 5 then [40] ++ (c.kids.map (D6 s)).getD 0 [] ++ S9 ++ (c.kids.map (D6 s)).getD 1 [] ++ [41]
  else if c.op = 6 then [40] ++ (c.kids.map (D6 s)).getD 0 [] ++ d6 ++ (c.kids.map (D6 s)).getD 1 [] ++ [41]
  else if c.op = 7 then d9 ++ (c.kids.map (D6 s)).getD 0 []
  else CG:=by
 cases c
 rw [D6,EP]
 rfl
set_option maxHeartbeats 8000000 in
theorem Gf (s:B2) (hr:C8 s = 0) (c:A4):j9 s c = 0 → I8 c ≤ 1000 → B3 Tryz.prog 130 [sA s,L8 c] (.str (D6 s c)) ∧ (D6 s c).length ≤ 100 * I8 c:=by
 refine Q3 (p:=fun c=>j9 s c = 0 → I8 c ≤ 1000 → B3 Tryz.prog 130 [sA s,L8 c] (.str (D6 s c)) ∧ (D6 s c).length ≤ 100 * I8 c) (fun c ih h ht=>?_) c
 obtain ⟨h1,h2⟩:=LA h
 obtain ⟨p1,p2,p3,p4,p5,p6⟩:=GY h1
 obtain ⟨k1,k2,k3⟩:=Lt c.op
 have hkid:∀ k,k ∈ c.kids → B3 Tryz.prog 130 [sA s,L8 k] (.str (D6 s k)) ∧ (D6 s k).length ≤ 100 * I8 k:=fun k hk=>by
  have:=Ho hk
  rw [Bk] at ht
  exact ih k hk (h2 k hk) (by omega)
 have hcol:∃ x,s.cols[c.col.toNat]? = some x ∧ 0 ≤ c.col:=by
  by_cases ho:c.op = 2 ∨ c.op = 3 ∨ c.op = 4
  ·have:=p3 ho
   exact ⟨_,List.getElem?_eq_getElem (by omega),by omega⟩
  ·have hz:=Xx h1 (by omega)
   have:=Xy hr
   exact ⟨_,List.getElem?_eq_getElem (by omega),by omega⟩
 obtain ⟨x,hx,hc0⟩:=hcol
 have hnm:=T9 (Pn hr hx)
 rw [Bk] at ht ⊢
 rw [Fi]
 unfold R4 An
 rw [E0 hx] at p4 ⊢
 rw [T6] at *
 by_cases o2:c.op = 2
 ·rw [if_pos o2]
  obtain ⟨hk,hcd⟩:=p4 o2
  have hl:=Aa.lst hr (List.mem_of_getElem? hx) hk
  obtain ⟨lx,hlx⟩:∃ l,s.lists[x.lst.toNat]? = some l:=⟨_,List.getElem?_eq_getElem (by omega)⟩
  rw [Q1 hlx] at hcd ⊢
  obtain ⟨cd,hcx⟩:∃ d,lx.2[c.code.toNat]? = some d:=⟨_,List.getElem?_eq_getElem (by omega)⟩
  rw [j8 hcx]
  have hcn:=T9 (Ge hr (List.mem_of_getElem? hlx) hcx)
  refine ⟨?_,by simp only [List.length_append,List.length_cons,List.length_nil];omega⟩
  refine F7 Tryz.func130 99 fun hrd E h0=>?_
  clear hrd
  repeat' ((first | (refine B1 (x:=x) hx (by omega) ?_) | (refine B1 (x:=lx) hlx (by omega) ?_) | (refine B1 (x:=cd) hcx (by omega) ?_) | (refine G2 ?_ ?_;(show x.name.length + 7 ≤ 9223372036854775807;omega)) | (refine G2 ?_ ?_;(rw [List.length_append];show x.name.length + 7 + cd.name.length ≤ 9223372036854775807;omega)) | (refine J2 ?_ ?_;kernel_rfl) |refine A1 ?_|refine S1 ?_|refine Z1 ?_|refine Z2 ?_|(refine And.intro ?_ ?_<;>intro h<;>try first|(exfalso;omega)|exact absurd rfl h)|refine Z3 ?_|refine Z4 ?_|intro el hel hbB|intro el hel|intro ex|refine Z5 ?_|(refine A8 ?_ ?_;exact ⟨by kernel_rfl,by decide⟩)|refine A7 ?_ ?_|exact A6|refine A3 ?_ ?_|exact A2|(refine A0 ?_ ?_ ?_;kernel_rfl;kernel_rfl)) <;> (try (conv=>whnf)))
  all_goals first
   | exact A9 rfl rfl
   | (exfalso;omega)
 rw [if_neg o2]
 by_cases o3:c.op = 3
 ·rw [if_pos o3]
  obtain ⟨_,q1,q2,q3⟩:=p5 o3
  have l1:=Lib.itoa_length_le c.lo (by omega) (by omega)
  have l2:=Lib.itoa_length_le c.hi (by omega) (by omega)
  have r1:=i7 c.lo (by omega) (by omega)
  have r2:=i7 c.hi (by omega) (by omega)
  refine ⟨?_,by simp only [List.length_append,List.length_cons,List.length_nil];omega⟩
  refine F7 Tryz.func130 99 fun hrd E h0=>?_
  clear hrd
  generalize Lib.itoa c.lo = zl at *
  generalize Lib.itoa c.hi = zh at *
  repeat' ((first | (refine B1 (x:=x) hx (by omega) ?_) | refine B0 r1 ?_ | refine B0 r2 ?_ | (refine G2 ?_ ?_;(show x.name.length + 6 ≤ 9223372036854775807;omega)) | (refine G2 ?_ ?_;(rw [List.length_append];show x.name.length + 6 + zl.length ≤ 9223372036854775807;omega)) | (refine G2 ?_ ?_;(rw [List.length_append,List.length_append];show x.name.length + 6 + zl.length + 4 ≤ 9223372036854775807;omega)) | (refine G2 ?_ ?_;(rw [List.length_append,List.length_append,List.length_append];show x.name.length + 6 + zl.length + 4 + zh.length ≤ 9223372036854775807;omega)) | (refine J2 ?_ ?_;kernel_rfl) |refine A1 ?_|refine S1 ?_|refine Z1 ?_|refine Z2 ?_|(refine And.intro ?_ ?_<;>intro h<;>try first|(exfalso;omega)|exact absurd rfl h)|refine Z3 ?_|refine Z4 ?_|intro el hel hbB|intro el hel|intro ex|refine Z5 ?_|(refine A8 ?_ ?_;exact ⟨by kernel_rfl,by decide⟩)|refine A7 ?_ ?_|exact A6|refine A3 ?_ ?_|exact A2|(refine A0 ?_ ?_ ?_;kernel_rfl;kernel_rfl)) <;> (try (conv=>whnf)))
  all_goals first
   | exact A9 rfl rfl
   | (exfalso;omega)
 rw [if_neg o3]
 by_cases o4:c.op = 4
 ·rw [if_pos o4]
  refine ⟨?_,by simp only [List.length_append,List.length_cons,List.length_nil];omega⟩
  refine F7 Tryz.func130 99 fun hrd E h0=>?_
  clear hrd
  repeat' ((first | (refine B1 (x:=x) hx (by omega) ?_) | (refine G2 ?_ ?_;(show x.name.length + 8 ≤ 9223372036854775807;omega)) |refine A1 ?_|refine S1 ?_|refine Z1 ?_|refine Z2 ?_|(refine And.intro ?_ ?_<;>intro h<;>try first|(exfalso;omega)|exact absurd rfl h)|refine Z3 ?_|refine Z4 ?_|intro el hel hbB|intro el hel|intro ex|refine Z5 ?_|(refine A8 ?_ ?_;exact ⟨by kernel_rfl,by decide⟩)|refine A7 ?_ ?_|exact A6|refine A3 ?_ ?_|exact A2|(refine A0 ?_ ?_ ?_;kernel_rfl;kernel_rfl)) <;> (try (conv=>whnf)))
  all_goals first
   | exact A9 rfl rfl
   | (exfalso;omega)
 rw [if_neg o4]
 by_cases o5:c.op = 5
 ·rw [if_pos o5]
  have hkl:=k1 (.inl o5)
  obtain ⟨a,ha⟩:∃ a,c.kids[0]? = some a:=⟨_,List.getElem?_eq_getElem (by omega)⟩
  obtain ⟨b,hb⟩:∃ b,c.kids[1]? = some b:=⟨_,List.getElem?_eq_getElem (by omega)⟩
  obtain ⟨r1,l1⟩:=hkid a (List.mem_of_getElem? ha)
  obtain ⟨r2,l2⟩:=hkid b (List.mem_of_getElem? hb)
  have ht2:=Po ha hb
  rw [j8 (l:=c.kids.map (D6 s)) (k:=0) (x:=D6 s a) (by simp [ha]),j8 (l:=c.kids.map (D6 s)) (k:=1) (x:=D6 s b) (by simp [hb])]
  generalize D6 s a = za at *
  generalize D6 s b = zb at *
  refine ⟨?_,by simp only [List.length_append,List.length_cons,List.length_nil];omega⟩
  refine F7 Tryz.func130 99 fun hrd E h0=>?_
  clear hrd
  repeat' ((first | (refine B1 (x:=x) hx (by omega) ?_) | (refine B1 (x:=a) ha (by decide) ?_) | (refine B1 (x:=b) hb (by decide) ?_) | refine B0 r1 ?_ | refine B0 r2 ?_ | (refine G2 ?_ ?_;(show 1 + za.length ≤ 9223372036854775807;omega)) | (refine G2 ?_ ?_;(rw [List.length_append];show 1 + za.length + 5 ≤ 9223372036854775807;omega)) | (refine G2 ?_ ?_;(rw [List.length_append,List.length_append];show 1 + za.length + 5 + zb.length ≤ 9223372036854775807;omega)) | (refine G2 ?_ ?_;(rw [List.length_append,List.length_append,List.length_append];show 1 + za.length + 5 + zb.length + 1 ≤ 9223372036854775807;omega)) | (refine J2 ?_ ?_;kernel_rfl) |refine A1 ?_|refine S1 ?_|refine Z1 ?_|refine Z2 ?_|(refine And.intro ?_ ?_<;>intro h<;>try first|(exfalso;omega)|exact absurd rfl h)|refine Z3 ?_|refine Z4 ?_|intro el hel hbB|intro el hel|intro ex|refine Z5 ?_|(refine A8 ?_ ?_;exact ⟨by kernel_rfl,by decide⟩)|refine A7 ?_ ?_|exact A6|refine A3 ?_ ?_|exact A2|(refine A0 ?_ ?_ ?_;kernel_rfl;kernel_rfl)) <;> (try (conv=>whnf)))
  all_goals first
   | exact A9 rfl rfl
   | (exfalso;omega)
 rw [if_neg o5]
 by_cases o6:c.op = 6
 ·rw [if_pos o6]
  have hkl:=k1 (.inr o6)
  obtain ⟨a,ha⟩:∃ a,c.kids[0]? = some a:=⟨_,List.getElem?_eq_getElem (by omega)⟩
  obtain ⟨b,hb⟩:∃ b,c.kids[1]? = some b:=⟨_,List.getElem?_eq_getElem (by omega)⟩
  obtain ⟨r1,l1⟩:=hkid a (List.mem_of_getElem? ha)
  obtain ⟨r2,l2⟩:=hkid b (List.mem_of_getElem? hb)
  have ht2:=Po ha hb
  rw [j8 (l:=c.kids.map (D6 s)) (k:=0) (x:=D6 s a) (by simp [ha]),j8 (l:=c.kids.map (D6 s)) (k:=1) (x:=D6 s b) (by simp [hb])]
  generalize D6 s a = za at *
  generalize D6 s b = zb at *
  refine ⟨?_,by simp only [List.length_append,List.length_cons,List.length_nil];omega⟩
  refine F7 Tryz.func130 99 fun hrd E h0=>?_
  clear hrd
  repeat' ((first | (refine B1 (x:=x) hx (by omega) ?_) | (refine B1 (x:=a) ha (by decide) ?_) | (refine B1 (x:=b) hb (by decide) ?_) | refine B0 r1 ?_ | refine B0 r2 ?_ | (refine G2 ?_ ?_;(show 1 + za.length ≤ 9223372036854775807;omega)) | (refine G2 ?_ ?_;(rw [List.length_append];show 1 + za.length + 4 ≤ 9223372036854775807;omega)) | (refine G2 ?_ ?_;(rw [List.length_append,List.length_append];show 1 + za.length + 4 + zb.length ≤ 9223372036854775807;omega)) | (refine G2 ?_ ?_;(rw [List.length_append,List.length_append,List.length_append];show 1 + za.length + 4 + zb.length + 1 ≤ 9223372036854775807;omega)) | (refine J2 ?_ ?_;kernel_rfl) |refine A1 ?_|refine S1 ?_|refine Z1 ?_|refine Z2 ?_|(refine And.intro ?_ ?_<;>intro h<;>try first|(exfalso;omega)|exact absurd rfl h)|refine Z3 ?_|refine Z4 ?_|intro el hel hbB|intro el hel|intro ex|refine Z5 ?_|(refine A8 ?_ ?_;exact ⟨by kernel_rfl,by decide⟩)|refine A7 ?_ ?_|exact A6|refine A3 ?_ ?_|exact A2|(refine A0 ?_ ?_ ?_;kernel_rfl;kernel_rfl)) <;> (try (conv=>whnf)))
  all_goals first
   | exact A9 rfl rfl
   | (exfalso;omega)
 rw [if_neg o6]
 by_cases o7:c.op = 7
 ·rw [if_pos o7]
  have hkl:=k2 o7
  obtain ⟨a,ha⟩:∃ a,c.kids[0]? = some a:=⟨_,List.getElem?_eq_getElem (by omega)⟩
  obtain ⟨r1,l1⟩:=hkid a (List.mem_of_getElem? ha)
  have ht2:=Ho (List.mem_of_getElem? ha)
  rw [j8 (l:=c.kids.map (D6 s)) (k:=0) (x:=D6 s a) (by simp [ha])]
  generalize D6 s a = za at *
  refine ⟨?_,by simp only [List.length_append,List.length_cons,List.length_nil];omega⟩
  refine F7 Tryz.func130 99 fun hrd E h0=>?_
  clear hrd
  repeat' ((first | (refine B1 (x:=x) hx (by omega) ?_) | (refine B1 (x:=a) ha (by decide) ?_) | refine B0 r1 ?_ | (refine G2 ?_ ?_;(show 4 + za.length ≤ 9223372036854775807;omega)) | (refine J2 ?_ ?_;kernel_rfl) |refine A1 ?_|refine S1 ?_|refine Z1 ?_|refine Z2 ?_|(refine And.intro ?_ ?_<;>intro h<;>try first|(exfalso;omega)|exact absurd rfl h)|refine Z3 ?_|refine Z4 ?_|intro el hel hbB|intro el hel|intro ex|refine Z5 ?_|(refine A8 ?_ ?_;exact ⟨by kernel_rfl,by decide⟩)|refine A7 ?_ ?_|exact A6|refine A3 ?_ ?_|exact A2|(refine A0 ?_ ?_ ?_;kernel_rfl;kernel_rfl)) <;> (try (conv=>whnf)))
  all_goals first
   | exact A9 rfl rfl
   | (exfalso;omega)
 rw [if_neg o7]
 refine ⟨?_,by simp only [List.length_cons,List.length_nil];omega⟩
 refine F7 Tryz.func130 99 fun hrd E h0=>?_
 clear hrd
 repeat' ((first | (refine B1 (x:=x) hx (by omega) ?_) |refine A1 ?_|refine S1 ?_|refine Z1 ?_|refine Z2 ?_|(refine And.intro ?_ ?_<;>intro h<;>try first|(exfalso;omega)|exact absurd rfl h)|refine Z3 ?_|refine Z4 ?_|intro el hel hbB|intro el hel|intro ex|refine Z5 ?_|(refine A8 ?_ ?_;exact ⟨by kernel_rfl,by decide⟩)|refine A7 ?_ ?_|exact A6|refine A3 ?_ ?_|exact A2|(refine A0 ?_ ?_ ?_;kernel_rfl;kernel_rfl)) <;> (try (conv=>whnf)))
 all_goals first
  | exact A9 rfl rfl
  | (exfalso;omega)
def Pp (s:B2) (c:A4):List UInt8 × Int:=if H0 s c = 0 then (D6 s c,0) else ([],H0 s c)
set_option maxHeartbeats 4000000 in
theorem RH (s:B2) (c:A4):B3 Tryz.prog 87 [sA s,L8 c] (.tup [.str (Pp s c).1, .i (Pp s c).2]):=by
 have h1:=BD s c
 have h2:¬ H0 s c ≠ 0 → B3 Tryz.prog 130 [sA s,L8 c] (.str (D6 s c)):=fun h=>by
  obtain ⟨a,b,_,d⟩:=Dm (Decidable.of_not_not h)
  exact (Gf s a c d (by omega)).1
 unfold Pp
 rw [T6] at *
 refine F7 Tryz.func87 16 fun hrd E h0=>?_
 clear hrd
 repeat' ((first | refine B0 h1 ?_ | (refine B0 (h2 (by assumption)) ?_) |refine A1 ?_|refine S1 ?_|refine Z1 ?_|refine Z2 ?_|(refine And.intro ?_ ?_<;>intro h<;>try first|(exfalso;omega)|exact absurd rfl h)|refine Z3 ?_|refine Z4 ?_|intro el hel hbB|intro el hel|intro ex|refine Z5 ?_|(refine A8 ?_ ?_;exact ⟨by kernel_rfl,by decide⟩)|refine A7 ?_ ?_|exact A6|refine A3 ?_ ?_|exact A2|(refine A0 ?_ ?_ ?_;kernel_rfl;kernel_rfl)) <;> (try (conv=>whnf)))
 all_goals first
  | (rw [if_neg (by omega)];exact a7 rfl rfl rfl)
  | (rw [if_pos (by omega)];exact a7 rfl rfl rfl)
set_option maxHeartbeats 4000000 in
theorem RI (s:B2) (t:List UInt8) (ht:t.length ≤ 140737488355328):B3 Tryz.prog 134 [sA s, .str t] (.tup [L8 (V0 s t).1, .i (V0 s t).2]):=by
 have h1:=AB s
 unfold V0
 by_cases hr:C8 s = 0
 ·rw [if_pos hr]
  have h2:=Tm s hr 10 (Nat.le_refl _) 40 t (by decide) (by decide) ht
  have h3:=fun c=>BD s c
  generalize M3 s 10 40 t = a at *
  obtain ⟨ac,aok,at',al⟩:=a
  dsimp only at *
  have h3:=h3 ac
  generalize H0 s ac = e at *
  rw [hr] at h1
  refine F7 Tryz.func134 42 fun hrd E h0=>?_
  clear hrd
  repeat' ((first | refine B0 h1 ?_ | refine ⟨C3 [2] [0] h2 rfl rfl rfl rfl rfl ⟨rfl,trivial⟩ rfl rfl rfl rfl rfl ?_⟩ | refine B0 h3 ?_ |refine A1 ?_|refine S1 ?_|refine Z1 ?_|refine Z2 ?_|(refine And.intro ?_ ?_<;>intro h<;>try first|(exfalso;omega)|exact absurd rfl h)|refine Z3 ?_|refine Z4 ?_|intro el hel hbB|intro el hel|intro ex|refine Z5 ?_|(refine A8 ?_ ?_;exact ⟨by kernel_rfl,by decide⟩)|refine A7 ?_ ?_|exact A6|refine A3 ?_ ?_|exact A2|(refine A0 ?_ ?_ ?_;kernel_rfl;kernel_rfl)) <;> (try (conv=>whnf)))
  all_goals first
   | (rw [if_neg (fun hh=>by obtain ⟨q1,q2,q3⟩:=hh;first | exact absurd q1 (by assumption) | exact absurd q3 (by assumption) | exact absurd q2 (by assumption) | (simp_all;done))];exact Ob rfl rfl rfl (K7 0 0 0 0 0) rfl (.refl _) rfl)
   | (rw [if_pos (by refine ⟨?_,?_,?_⟩ <;> first | assumption | (simp_all;done))];exact Ob rfl rfl rfl (.refl _) rfl (.refl _) rfl)
 ·rw [if_neg hr]
  refine F7 Tryz.func134 42 fun hrd E h0=>?_
  clear hrd
  repeat' ((first | refine B0 h1 ?_ |refine A1 ?_|refine S1 ?_|refine Z1 ?_|refine Z2 ?_|(refine And.intro ?_ ?_<;>intro h<;>try first|(exfalso;omega)|exact absurd rfl h)|refine Z3 ?_|refine Z4 ?_|intro el hel hbB|intro el hel|intro ex|refine Z5 ?_|(refine A8 ?_ ?_;exact ⟨by kernel_rfl,by decide⟩)|refine A7 ?_ ?_|exact A6|refine A3 ?_ ?_|exact A2|(refine A0 ?_ ?_ ?_;kernel_rfl;kernel_rfl)) <;> (try (conv=>whnf)))
  all_goals first
   | exact Ob rfl rfl rfl (K7 0 0 0 0 0) rfl (.refl _) rfl
   | (exfalso;contradiction)
end Go.Proofs.YthkklceofokkmaaGreatDoor
