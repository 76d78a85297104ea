/- Chapter 3: the program's reader of files: any line. -/
import Derived.Test.YtiphlhoclaogjabGreatDoorQKd3
import Derived.Test.YtiphlhoclaogjabGreatDoorQKc3
import Derived.Test.YtiphlhoclaogjabGreatDoorQKb7
import Derived.Test.YtiphlhoclaogjabGreatDoorQSj
set_option linter.unusedVariables false
set_option linter.unnecessarySimpa false
set_option linter.unusedSimpArgs false
namespace Go.Proofs.YtiphlhoclaogjabGreatDoor
open Go Go.Av
attribute [local irreducible] D6 B8 D8 D7 DQ E0 E1 St.le B4 B9
set_option maxRecDepth 100000
theorem Ro {ws:List (List UInt8)} {l:List Int} (h:P4 ws = some l):l.length = ws.length:=MR (f:=H4) (by rw [← Jv];exact h)
theorem Rp (r:F5) (w:List (List UInt8)) (hn:r.cols.length ≤ 20000) (hL:w.length ≤ 20001) (hwl:∀ z ∈ w,z.length ≤ 20000):B9 Tryz.prog 69 4 (R8 r) [.ref 0 0, .sl 1 (w.map C1)] 4 (R8 (u3 r w).1) (.b (u3 r w).2):=by
 unfold u3
 by_cases h:r.st = 2 ∨ w.length < 2
 ·rw [if_pos h];exact Ya r w h
 rw [if_neg h]
 have hst:¬ r.st = 2:=fun g=>h (.inl g)
 have hl:¬ w.length < 2:=fun g=>h (.inr g)
 by_cases hm:Ah w
 ·rw [if_pos hm]
  obtain ⟨m1,m2,m3⟩:=hm
  exact Rl r w hst hl m1 m2 m3
 rw [if_neg hm]
 unfold BO
 by_cases h1:B6 w 0 = U6
 ·rw [if_pos h1];exact Yb r w hn hst hl h1
 rw [if_neg h1]
 by_cases h2:B6 w 0 = O2
 ·rw [if_pos h2]
  by_cases h3:w.length = 3
  ·rw [if_pos h3]
   exact Wb r w hn hst h2 h3 (hwl _ (List.mem_of_getElem? (C8 (ws:=w) (i:=2) (by omega))))
  ·rw [if_neg h3];exact UM r w hn hst hl h2 h3
 rw [if_neg h2]
 have h6:¬ (w.length < 6 ∨ ¬ B6 w 4 = G8 ∧ ¬ B6 w 4 = H2):=fun g=>hm ⟨h1,h2,g⟩
 have h7:6 ≤ w.length:=by
  have:=fun g=>h6 (.inl g)
  omega
 have h8:B6 w 4 = G8 ∨ B6 w 4 = H2:=by
  by_cases g:B6 w 4 = G8
  ·exact .inl g
  ·exact .inr (Decidable.byContradiction fun g2=>h6 (.inr ⟨g,g2⟩))
 cases hns:P4 ((w.drop 2).take 2 ++ w.drop 5) with
 | none=>exact Wc r w hn hst h1 h2 h7 hL hwl h8 hns
 | some n =>
   have hlen:=Ro hns
   rw [List.length_append,List.length_take,List.length_drop,List.length_drop] at hlen
   match n,hlen,hns with
   | a :: b :: ws,_,hns=>exact Wd r w hn hst h1 h2 h7 hL hwl h8 a b ws hns
   | [],hlen,_=>simp only [List.length_nil] at hlen;omega
   | [a],hlen,_=>simp only [List.length_cons,List.length_nil] at hlen;omega
theorem Yc (r:F5) (w:List (List UInt8)) (hn:r.cols.length ≤ 20000) (hm:r.rows.length ≤ 20000) (hwl:∀ z ∈ w,z.length ≤ 20000):B9 Tryz.prog 70 4 (b5 r) [.ref 0 0, .sl 1 (w.map C1)] 4 (b5 (AX r w).1) (.b (AX r w).2):=by
 by_cases h:w.length = r.cols.length + 1
 ·exact Rn r w hn hm h hwl
 ·unfold AX
  rw [if_pos h]
  exact UN r w hn h
theorem We (r:F5) (w:List (List UInt8)) (hw:0 < w.length) (hst:r.st = 0) (hn:r.lists.length ≤ 20000) (hm:∀ l ∈ r.lists,l.2.length ≤ 20000) (hwl:∀ z ∈ w,z.length ≤ 20000):B9 Tryz.prog 68 4 (AF r) [.ref 0 0, .sl 1 (w.map C1)] 4 (AF (o9 r w).1) (.b (o9 r w).2):=by
 unfold o9
 rw [if_neg (show ¬ ¬ r.st = 0 from fun g=>g hst)]
 by_cases h1:B6 w 0 = I8
 ·rw [if_pos h1]
  by_cases h2:w.length = 2
  ·rw [if_pos h2];exact Rj r w hn hst h1 h2
  ·rw [if_neg h2];exact UL r w hw hst h1 h2
 ·rw [if_neg h1]
  by_cases h2:¬ w.length = 3 ∨ r.lists = []
  ·rw [if_pos h2];exact Rk r w hw hst h1 h2
  ·rw [if_neg h2]
   have h3:w.length = 3:=Decidable.of_not_not fun g=>h2 (.inl g)
   have hne:r.lists ≠ []:=fun g=>h2 (.inr g)
   obtain ⟨X,l,hX⟩:∃ X l,r.lists = X ++ [l]:=⟨r.lists.dropLast,r.lists.getLast hne,(List.dropLast_concat_getLast hne).symm⟩
   obtain ⟨ls,cs,rs,st⟩:=r
   dsimp only at *
   subst hX
   subst hst
   rw [CN]
   exact Pa X l cs rs w (by rw [List.length_append] at hn;omega) (hm l (by simp)) h1 h3 (hwl _ (List.mem_of_getElem? (C8 (ws:=w) (i:=2) (by omega))))
abbrev EG (w:List (List UInt8)):Prop:=B6 w 0 = I8 ∨ B6 w 0 = W0
set_option maxHeartbeats 4000000 in
theorem Wf (r:F5) (w:List (List UInt8)) (hw:0 < w.length) (hst:r.st = 0) (hn:r.lists.length ≤ 20000) (hm:∀ l ∈ r.lists,l.2.length ≤ 20000) (hwl:∀ z ∈ w,z.length ≤ 20000) (hL:EG w):B9 Tryz.prog 40 4 (AF r) [.ref 0 0, .sl 1 (w.map C1)] 4 (AF (L5 r w).1) (.b (L5 r w).2):=by
 unfold L5
 rw [if_pos hL]
 have hq:=We r w hw hst hn hm hwl
 have g0:=C8 (ws:=w) (i:=0) hw
 generalize o9 r w = R at *
 obtain ⟨r2,ok⟩:=R
 obtain ⟨ls,cs,rs,st⟩:=r
 obtain ⟨ls2,cs2,rs2,st2⟩:=r2
 dsimp only [AF,Z9] at *
 unfold EG at hL
 generalize B6 w 0 = w0 at *
 rcases hL with rfl | rfl
 ·refine J1 Tryz.func40 26 fun E h0=>?_
  repeat' ((first | (refine A3 (x:=I8) g0 (by omega) ?_) |refine A4 ?_|refine S1 ?_|refine Z1 ?_|refine Z2 ?_|(refine And.intro ?_ ?_<;>intro h<;>try first|(exfalso;omega)|exact absurd rfl h)|refine Z3 ?_|refine Z4 ?_|intro el hel hbB|intro el hel|intro ex|refine Z5 ?_|(refine A9 ?_ ?_;exact ⟨by kernel_rfl,by decide⟩)|refine A8 ?_ ?_|exact A7|refine A6 ?_ ?_|exact A5|(refine A0 ?_ ?_ ?_;kernel_rfl;kernel_rfl) | refine nc [0,1,2,3] [0,0,0,0] hq rfl rfl rfl ⟨rfl,rfl,rfl,rfl,trivial⟩ ?_) <;> (try (conv=>whnf)))
  all_goals first
   | contradiction
   | exact D5 (B0 h0 rfl ⟨rfl,trivial⟩ ⟨rfl,⟨_,rfl⟩,⟨_,rfl⟩,⟨_,rfl⟩,trivial⟩ rfl rfl rfl)
 ·refine J1 Tryz.func40 26 fun E h0=>?_
  repeat' ((first | (refine A3 (x:=W0) g0 (by omega) ?_) |refine A4 ?_|refine S1 ?_|refine Z1 ?_|refine Z2 ?_|(refine And.intro ?_ ?_<;>intro h<;>try first|(exfalso;omega)|exact absurd rfl h)|refine Z3 ?_|refine Z4 ?_|intro el hel hbB|intro el hel|intro ex|refine Z5 ?_|(refine A9 ?_ ?_;exact ⟨by kernel_rfl,by decide⟩)|refine A8 ?_ ?_|exact A7|refine A6 ?_ ?_|exact A5|(refine A0 ?_ ?_ ?_;kernel_rfl;kernel_rfl) | refine nc [0,1,2,3] [0,0,0,0] hq rfl rfl rfl ⟨rfl,rfl,rfl,rfl,trivial⟩ ?_) <;> (try (conv=>whnf)))
  all_goals first
   | contradiction
   | exact D5 (B0 h0 rfl ⟨rfl,trivial⟩ ⟨rfl,⟨_,rfl⟩,⟨_,rfl⟩,⟨_,rfl⟩,trivial⟩ rfl rfl rfl)
set_option maxHeartbeats 8000000 in
theorem Wg (r:F5) (w:List (List UInt8)) (hw:0 < w.length) (hn:r.cols.length ≤ 20000) (hm:r.rows.length ≤ 20000) (hL:w.length ≤ 20001) (hwl:∀ z ∈ w,z.length ≤ 20000) (hl:EG w → ¬ r.st = 0) (hrow:¬ B6 w 0 = N3):B9 Tryz.prog 40 4 (R8 r) [.ref 0 0, .sl 1 (w.map C1)] 4 (R8 (L5 r w).1) (.b (L5 r w).2):=by
 have g0:=C8 (ws:=w) (i:=0) hw
 unfold L5
 by_cases h1:EG w
 ·rw [if_pos h1]
  have e:o9 r w = (r,false):=by unfold o9;rw [if_pos (hl h1)]
  have hq:=UK r w (hl h1)
  rw [e]
  clear e hl
  obtain ⟨ls,cs,rs,st⟩:=r
  dsimp only [R8,Z9] at *
  unfold EG at h1
  generalize B6 w 0 = w0 at *
  refine J1 Tryz.func40 26 fun E h0=>?_
  repeat' ((first | (refine A3 (x:=w0) g0 (by omega) ?_) |refine A4 ?_|refine S1 ?_|refine Z1 ?_|refine Z2 ?_|(refine And.intro ?_ ?_<;>intro h<;>try first|(exfalso;omega)|exact absurd rfl h)|refine Z3 ?_|refine Z4 ?_|intro el hel hbB|intro el hel|intro ex|refine Z5 ?_|(refine A9 ?_ ?_;exact ⟨by kernel_rfl,by decide⟩)|refine A8 ?_ ?_|exact A7|refine A6 ?_ ?_|exact A5|(refine A0 ?_ ?_ ?_;kernel_rfl;kernel_rfl) | refine nc [0,1,2,3] [0,0,0,0] hq rfl rfl rfl ⟨rfl,rfl,rfl,rfl,trivial⟩ ?_) <;> (try (conv=>whnf)))
  all_goals first
   | exact D5 (B0 h0 rfl ⟨rfl,trivial⟩ ⟨rfl,⟨_,rfl⟩,⟨_,rfl⟩,⟨_,rfl⟩,trivial⟩ rfl rfl rfl)
   | (exfalso;rcases h1 with g | g;exact (show ¬ w0 = I8 by assumption) g;exact (show ¬ w0 = W0 by assumption) g)
 rw [if_neg h1]
 have n1:¬ B6 w 0 = I8:=fun g=>h1 (.inl g)
 have n2:¬ B6 w 0 = W0:=fun g=>h1 (.inr g)
 clear h1 hl
 by_cases h2:B6 w 0 = U6 ∨ B6 w 0 = O2 ∨ B6 w 0 = L4
 ·rw [if_pos h2]
  have hq:=Rp r w hn hL hwl
  generalize u3 r w = R at *
  obtain ⟨r2,ok⟩:=R
  obtain ⟨ls,cs,rs,st⟩:=r
  obtain ⟨ls2,cs2,rs2,st2⟩:=r2
  dsimp only [R8,Z9] at *
  generalize B6 w 0 = w0 at *
  refine J1 Tryz.func40 26 fun E h0=>?_
  repeat' ((first | (refine A3 (x:=w0) g0 (by omega) ?_) |refine A4 ?_|refine S1 ?_|refine Z1 ?_|refine Z2 ?_|(refine And.intro ?_ ?_<;>intro h<;>try first|(exfalso;omega)|exact absurd rfl h)|refine Z3 ?_|refine Z4 ?_|intro el hel hbB|intro el hel|intro ex|refine Z5 ?_|(refine A9 ?_ ?_;exact ⟨by kernel_rfl,by decide⟩)|refine A8 ?_ ?_|exact A7|refine A6 ?_ ?_|exact A5|(refine A0 ?_ ?_ ?_;kernel_rfl;kernel_rfl) | refine nc [0,1,2,3] [0,0,0,0] hq rfl rfl rfl ⟨rfl,rfl,rfl,rfl,trivial⟩ ?_) <;> (try (conv=>whnf)))
  all_goals first
   | exact D5 (B0 h0 rfl ⟨rfl,trivial⟩ ⟨rfl,⟨_,rfl⟩,⟨_,rfl⟩,⟨_,rfl⟩,trivial⟩ rfl rfl rfl)
   | (exfalso;exact n1 (by assumption))
   | (exfalso;exact n2 (by assumption))
   | (exfalso;rcases h2 with g | g | g;exact (show ¬ w0 = U6 by assumption) g;exact (show ¬ w0 = O2 by assumption) g;exact (show ¬ w0 = L4 by assumption) g)
 rw [if_neg h2]
 have n3:¬ B6 w 0 = U6:=fun g=>h2 (.inl g)
 have n4:¬ B6 w 0 = O2:=fun g=>h2 (.inr (.inl g))
 have n5:¬ B6 w 0 = L4:=fun g=>h2 (.inr (.inr g))
 clear h2
 rw [if_neg hrow]
 have h3:=hrow
 ·obtain ⟨ls,cs,rs,st⟩:=r
  dsimp only [R8,Z9] at *
  generalize B6 w 0 = w0 at *
  refine J1 Tryz.func40 26 fun E h0=>?_
  repeat' ((first | (refine A3 (x:=w0) g0 (by omega) ?_) |refine A4 ?_|refine S1 ?_|refine Z1 ?_|refine Z2 ?_|(refine And.intro ?_ ?_<;>intro h<;>try first|(exfalso;omega)|exact absurd rfl h)|refine Z3 ?_|refine Z4 ?_|intro el hel hbB|intro el hel|intro ex|refine Z5 ?_|(refine A9 ?_ ?_;exact ⟨by kernel_rfl,by decide⟩)|refine A8 ?_ ?_|exact A7|refine A6 ?_ ?_|exact A5|(refine A0 ?_ ?_ ?_;kernel_rfl;kernel_rfl)) <;> (try (conv=>whnf)))
  all_goals first
   | exact D5 (B0 h0 rfl ⟨rfl,trivial⟩ ⟨rfl,⟨_,rfl⟩,⟨_,rfl⟩,⟨_,rfl⟩,trivial⟩ rfl rfl rfl)
   | (exfalso;exact n1 (by assumption))
   | (exfalso;exact n2 (by assumption))
   | (exfalso;exact n3 (by assumption))
   | (exfalso;exact n4 (by assumption))
   | (exfalso;exact n5 (by assumption))
   | (exfalso;exact h3 (by assumption))
set_option maxHeartbeats 8000000 in
theorem Wh (r:F5) (w:List (List UInt8)) (hw:0 < w.length) (hn:r.cols.length ≤ 20000) (hm:r.rows.length ≤ 20000) (hwl:∀ z ∈ w,z.length ≤ 20000) (hrow:B6 w 0 = N3):B9 Tryz.prog 40 4 (b5 r) [.ref 0 0, .sl 1 (w.map C1)] 4 (b5 (L5 r w).1) (.b (L5 r w).2):=by
 have g0:=C8 (ws:=w) (i:=0) hw
 unfold L5
 rw [hrow,if_neg (show ¬ (N3 = I8 ∨ N3 = W0) by decide),if_neg (show ¬ (N3 = U6 ∨ N3 = O2 ∨ N3 = L4) by decide),if_pos (show N3 = N3 from rfl)]
 rw [hrow] at g0
 clear hrow
 have hq:=Yc r w hn hm hwl
 generalize AX r w = R at *
 obtain ⟨r2,ok⟩:=R
 obtain ⟨ls,cs,rs,st⟩:=r
 obtain ⟨ls2,cs2,rs2,st2⟩:=r2
 dsimp only [b5,Z9] at *
 refine J1 Tryz.func40 26 fun E h0=>?_
 repeat' ((first | (refine A3 (x:=N3) g0 (by omega) ?_) |refine A4 ?_|refine S1 ?_|refine Z1 ?_|refine Z2 ?_|(refine And.intro ?_ ?_<;>intro h<;>try first|(exfalso;omega)|exact absurd rfl h)|refine Z3 ?_|refine Z4 ?_|intro el hel hbB|intro el hel|intro ex|refine Z5 ?_|(refine A9 ?_ ?_;exact ⟨by kernel_rfl,by decide⟩)|refine A8 ?_ ?_|exact A7|refine A6 ?_ ?_|exact A5|(refine A0 ?_ ?_ ?_;kernel_rfl;kernel_rfl) | refine nc [0,1,2,3] [0,0,0,0] hq rfl rfl rfl ⟨rfl,rfl,rfl,rfl,trivial⟩ ?_) <;> (try (conv=>whnf)))
 all_goals first
  | contradiction
  | exact D5 (B0 h0 rfl ⟨rfl,trivial⟩ ⟨rfl,⟨_,rfl⟩,⟨_,rfl⟩,⟨_,rfl⟩,trivial⟩ rfl rfl rfl)
end Go.Proofs.YtiphlhoclaogjabGreatDoor
namespace Go.Proofs.YtiphlhoclaogjabGreatDoor
open Go Go.Av
attribute [local irreducible] D6 B8 D8 D7 DQ E0 E1 St.le B4 B9
set_option maxRecDepth 100000
theorem UP {z:List UInt8} (h:(H4 z).2 = true):Lib.itoa (H4 z).1 = z:=by
 unfold H4 at h ⊢
 by_cases h15:15 < (H9 [45] z).1.length
 ·rw [if_pos h15] at h;cases h
 ·rw [if_neg h15] at h ⊢
  cases ha:Lib.atoiAll z with
  | ok n=>rw [ha] at h;exact of_decide_eq_true h
  | range=>rw [ha] at h;cases h
  | _=>rw [ha] at h;cases h
theorem UQ {w:List (List UInt8)} (h:w.length = 2):w = [B6 w 0,B6 w 1]:=by
 match w,h with
 | [a,b],_=>rfl
theorem aU {α:Type} {w:List α} (h:6 ≤ w.length):∃ a b c d e f r,w = a :: b :: c :: d :: e :: f :: r:=by
 rcases w with _ | ⟨a,_ | ⟨b,_ | ⟨c,_ | ⟨d,_ | ⟨e,_ | ⟨f,r⟩⟩⟩⟩⟩⟩
 all_goals first
  | exact ⟨_,_,_,_,_,_,_,rfl⟩
  | (exfalso;simp at h)
theorem Rq {t:List UInt8} (h:¬ t.dropWhile (D0 10) = []):t = t.takeWhile (D0 10) ++ [10] ++ (t.dropWhile (D0 10)).drop 1:=by
 have h1:=IC 10 t
 have h2:=JA h
 rw [List.append_assoc]
 rw [show [10] ++ (t.dropWhile (D0 10)).drop 1 = t.dropWhile (D0 10) from h2.symm]
 exact h1.symm
end Go.Proofs.YtiphlhoclaogjabGreatDoor
namespace Go.Proofs.YtiphlhoclaogjabGreatDoor
open Go Go.Av Go.RowKit Go.Lib
set_option maxRecDepth 100000
theorem UR {X:Nat → Prop} {w:World} (hX:∀ k,X k → k < w.heap.size) (T:TypeId) (l:List ByteArray) (N:Nat) (hl:l.length ≤ N) (hN:N ≤ maxLen) :
  Im X (w.alloc (.cells (Lib.cellsOf l N) T)) (.sl 1 ((l.map (·.data.toList)).map C1)) (.slice (some ⟨w.heap.size,0,none⟩) l.length N):=by
 have hlen:((l.map (·.data.toList)).map C1).length = l.length:=by rw [List.length_map,List.length_map]
 have:=Im.sl (U:=X) (w:=w.alloc (.cells (Lib.cellsOf l N) T)) 1 ((l.map (·.data.toList)).map C1) ⟨w.heap.size,0,none⟩ N (fun i _=>.string (l.getD i default)) (by rw [hlen];exact hl) hN (fun _ _ h=>Nat.lt_irrefl _ (hX _ h))
  (fun e he=>by
   obtain ⟨x,_,rfl⟩:=List.mem_map.1 he
   rfl)
  (fun i hi j hj=>by
   rw [hlen] at hi
   have hj0:j = 0:=by omega
   subst hj0
   have e:(⟨w.heap.size,0,none⟩:Addr).add (i * 1 + 0) = ⟨w.heap.size,i,none⟩:=by rw [Nat.mul_one,Nat.add_zero];unfold Addr.add;split <;> simp_all
   rw [e]
   have hc:(Lib.cellsOf l N)[i]? = some (.string (l.getD i default)):=by
    unfold Lib.cellsOf
    rw [List.getElem?_toArray,List.getElem?_append_left (by rw [List.length_map];exact hi),List.getElem?_map,List.getElem?_eq_getElem hi,List.getD_eq_getElem?_getD,List.getElem?_eq_getElem hi];rfl
   exact (World.cell?_alloc_new (w:=w) (Lib.cellsOf l N) T i).trans hc)
  (fun i e he j x hx=>by
   rw [List.getElem?_map,List.getElem?_map] at he
   cases hi:l[i]? with
   | none=>rw [hi] at he;cases he
   | some y =>
     rw [hi] at he
     cases he
     match j,hx with
     | 0,hx =>
       cases hx
       rw [List.getD_eq_getElem?_getD,hi]
       exact .str _)
 rw [hlen] at this
 exact this
theorem ID {sep:ByteArray} (h1:1 ≤ sep.size):∀ (n:Nat) (s:ByteArray),Lib.countB s sep = n → (Lib.splitB sep 0 n s).length = n + 1
 | 0,s,_=>rfl
 | n + 1,s,h=>by
   by_cases hi:Lib.indexB s sep = -1
   ·rw [Lib.countB_miss s sep hi] at h;cases h
   ·have hge:-1 ≤ Lib.indexB s sep:=Lib.index_ge _ _
    obtain ⟨i,he⟩:∃ i:Nat,Lib.indexB s sep = i:=⟨(Lib.indexB s sep).toNat,by omega⟩
    have hc:=Lib.countB_hit s sep i h1 he
    rw [Lib.splitB_hit sep 0 n s i he,List.length_cons,ID h1 n _ (by omega)]
theorem IE (t sep:List UInt8) (ht:t.length < 4294967281) (h1:sep ≠ []):B4 Tryz.prog 38 [.str t, .str sep] (.sl 1 ((I0 sep t).map C1)):=by
 have h1':1 ≤ (⟨sep.toArray⟩:ByteArray).size:=by
  show 1 ≤ sep.toArray.size
  rw [List.size_toArray];exact List.length_pos_iff.2 h1
 refine ⟨⟨Tryz.f38,Tryz.func38,by kernel_rfl,by kernel_rfl⟩,fun X w vs hX htb hl hv=>?_⟩
 match vs,hl with
 | [y,z],_ =>
   have hv0:=hv 0 _ y rfl rfl
   have hv1:=hv 1 _ z rfl rfl
   cases hv0
   cases hv1
   obtain ⟨_,m,tt,fr,he⟩:=htb.num 0 (by decide)
   refine Calls.mono (Tryz.strings_Split ⟨t.toArray⟩ ⟨sep.toArray⟩ m w ht (by unfold World.cell?;simp [he]) h1') ?_
   rintro e w' ⟨rfl,rfl⟩
   have hlen:=ID h1' _ ⟨t.toArray⟩ rfl
   have hcl:=Lib.count_le t sep
   have hle:Lib.countB ⟨t.toArray⟩ ⟨sep.toArray⟩ + 1 ≤ maxLen:=by
    have:Lib.countB ⟨t.toArray⟩ ⟨sep.toArray⟩ = Lib.count t sep:=rfl
    unfold maxLen;omega
   have him:=UR (w:=w) hX 9 (Lib.splitB ⟨sep.toArray⟩ 0 (Lib.countB ⟨t.toArray⟩ ⟨sep.toArray⟩) ⟨t.toArray⟩) (Lib.countB ⟨t.toArray⟩ ⟨sep.toArray⟩ + 1) (by rw [hlen];exact Nat.le_refl _) hle
   rw [hlen,Lib.splitB_data] at him
   have e2:Lib.splitK (⟨sep.toArray⟩:ByteArray).data.toList 0 (Lib.countB ⟨t.toArray⟩ ⟨sep.toArray⟩) (⟨t.toArray⟩:ByteArray).data.toList = I0 sep t:=Wa h1 t
   rw [e2] at him
   have e3:Lib.cellsOf (Lib.splitB ⟨sep.toArray⟩ 0 (Lib.countB ⟨t.toArray⟩ ⟨sep.toArray⟩) ⟨t.toArray⟩) (Lib.countB ⟨t.toArray⟩ ⟨sep.toArray⟩ + 1) = ((Lib.splitB ⟨sep.toArray⟩ 0 (Lib.countB ⟨t.toArray⟩ ⟨sep.toArray⟩) ⟨t.toArray⟩).map Value.string).toArray:=by
    unfold Lib.cellsOf
    rw [hlen,Nat.sub_self,List.replicate_zero,List.append_nil]
   rw [e3] at him
   exact ⟨_,rfl,him,R0 _ _⟩
theorem NP (t sep:List UInt8) (ht:t.length < 4294967281):B4 Tryz.prog 45 [.str t, .str sep] (.i (Lib.index t sep)):=by
 refine ⟨⟨Tryz.f45,Tryz.func45,by kernel_rfl,by kernel_rfl⟩,fun X w vs hX htb hl hv=>?_⟩
 match vs,hl with
 | [y,z],_ =>
   have hv0:=hv 0 _ y rfl rfl
   have hv1:=hv 1 _ z rfl rfl
   cases hv0
   cases hv1
   obtain ⟨_,m,tt,fr,he⟩:=htb.num 0 (by decide)
   refine Calls.mono (Tryz.strings_Index ⟨t.toArray⟩ ⟨sep.toArray⟩ m w ht (by unfold World.cell?;simp [he])) ?_
   rintro e w' h
   obtain ⟨rfl,h2⟩:=h
   exact ⟨_,rfl, .v _,by first | (subst h2;exact Below.refl _ _) | (obtain ⟨n,rfl⟩:=h2;exact ⟨rfl,rfl,rfl,Nat.le_refl _,fun _ _=>rfl⟩)⟩
end Go.Proofs.YtiphlhoclaogjabGreatDoor
