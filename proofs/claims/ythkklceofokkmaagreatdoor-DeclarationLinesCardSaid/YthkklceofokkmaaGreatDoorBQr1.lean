/- strings.Split, SplitN, Index, LastIndex as contracts of the walk. -/
import Derived.Test.YthkklceofokkmaaGreatDoorBSj
import Derived.Test.YthkklceofokkmaaGreatDoorBXs
import Derived.Test.YthkklceofokkmaaGreatDoorBB9
import Derived.Test.YthkklceofokkmaaGreatDoorBC4
import Derived.Test.YthkklceofokkmaaGreatDoorBD1
set_option linter.unusedVariables false
set_option linter.unusedSimpArgs false
set_option linter.unnecessarySimpa false
namespace Go.Proofs.YthkklceofokkmaaGreatDoor
open Go Go.Av Go.RowKit Go.Lib
set_option maxRecDepth 100000
theorem QF {X:Nat → Prop} {w:World} (hX:∀ k,X k → k < w.heap.size) (T:TypeId) (l:List ByteArray) (N:Nat) (hl:l.length ≤ N) (hN:N ≤ maxLen) :
  Im X (w.alloc (.cells (Lib.cellsOf l N) T)) (.sl 1 ((l.map (·.data.toList)).map O1)) (.slice (some ⟨w.heap.size,0,none⟩) l.length N):=by
 have hlen:((l.map (·.data.toList)).map O1).length = l.length:=by rw [List.length_map,List.length_map]
 have:=Im.sl (U:=X) (w:=w.alloc (.cells (Lib.cellsOf l N) T)) 1 ((l.map (·.data.toList)).map O1) ⟨w.heap.size,0,none⟩ N (fun i _=>.string (l.getD i default)) (by rw [hlen];exact hl) hN (fun _ _ h=>Nat.lt_irrefl _ (hX _ h))
  (fun e he=>by
   obtain ⟨x,_,rfl⟩:=List.mem_map.1 he
   rfl)
  (fun i hi j hj=>by
   rw [hlen] at hi
   have hj0:j = 0:=by omega
   subst hj0
   have e:(⟨w.heap.size,0,none⟩:Addr).add (i * 1 + 0) = ⟨w.heap.size,i,none⟩:=by rw [Nat.mul_one,Nat.add_zero];unfold Addr.add;split <;> simp_all
   rw [e]
   have hc:(Lib.cellsOf l N)[i]? = some (.string (l.getD i default)):=by
    unfold Lib.cellsOf
    rw [List.getElem?_toArray,List.getElem?_append_left (by rw [List.length_map];exact hi),List.getElem?_map,List.getElem?_eq_getElem hi,List.getD_eq_getElem?_getD,List.getElem?_eq_getElem hi];rfl
   exact (World.cell?_alloc_new (w:=w) (Lib.cellsOf l N) T i).trans hc)
  (fun i e he j x hx=>by
   rw [List.getElem?_map,List.getElem?_map] at he
   cases hi:l[i]? with
   | none=>rw [hi] at he;cases he
   | some y =>
     rw [hi] at he
     cases he
     match j,hx with
     | 0,hx =>
       cases hx
       rw [List.getD_eq_getElem?_getD,hi]
       exact .str _)
 rw [hlen] at this
 exact this
theorem LO {sep:ByteArray} (h1:1 ≤ sep.size):∀ (n:Nat) (s:ByteArray),Lib.countB s sep = n → (Lib.splitB sep 0 n s).length = n + 1
 | 0,s,_=>rfl
 | n + 1,s,h=>by
   by_cases hi:Lib.indexB s sep = -1
   ·rw [Lib.countB_miss s sep hi] at h;cases h
   ·have hge:-1 ≤ Lib.indexB s sep:=Lib.index_ge _ _
    obtain ⟨i,he⟩:∃ i:Nat,Lib.indexB s sep = i:=⟨(Lib.indexB s sep).toNat,by omega⟩
    have hc:=Lib.countB_hit s sep i h1 he
    rw [Lib.splitB_hit sep 0 n s i he,List.length_cons,LO h1 n _ (by omega)]
theorem Y7 (t sep:List UInt8) (ht:t.length < 4294967281) (h1:sep ≠ []):B3 Tryz.prog 91 [.str t, .str sep] (.sl 1 ((E1 sep t).map O1)):=by
 have h1':1 ≤ (⟨sep.toArray⟩:ByteArray).size:=by
  show 1 ≤ sep.toArray.size
  rw [List.size_toArray];exact List.length_pos_iff.2 h1
 refine ⟨⟨Tryz.f91,Tryz.func91,by kernel_rfl,by kernel_rfl⟩,fun X w vs hX htb hl hv=>?_⟩
 match vs,hl with
 | [y,z],_ =>
   have hv0:=hv 0 _ y rfl rfl
   have hv1:=hv 1 _ z rfl rfl
   cases hv0
   cases hv1
   obtain ⟨_,m,tt,fr,he⟩:=htb.num 0 (by decide)
   refine Calls.mono (Tryz.strings_Split ⟨t.toArray⟩ ⟨sep.toArray⟩ m w ht (by unfold World.cell?;simp [he]) h1') ?_
   rintro e w' ⟨rfl,rfl⟩
   have hlen:=LO h1' _ ⟨t.toArray⟩ rfl
   have hcl:=Lib.count_le t sep
   have hle:Lib.countB ⟨t.toArray⟩ ⟨sep.toArray⟩ + 1 ≤ maxLen:=by
    have:Lib.countB ⟨t.toArray⟩ ⟨sep.toArray⟩ = Lib.count t sep:=rfl
    unfold maxLen;omega
   have him:=QF (w:=w) hX 9 (Lib.splitB ⟨sep.toArray⟩ 0 (Lib.countB ⟨t.toArray⟩ ⟨sep.toArray⟩) ⟨t.toArray⟩) (Lib.countB ⟨t.toArray⟩ ⟨sep.toArray⟩ + 1) (by rw [hlen];exact Nat.le_refl _) hle
   rw [hlen,Lib.splitB_data] at him
   have e2:Lib.splitK (⟨sep.toArray⟩:ByteArray).data.toList 0 (Lib.countB ⟨t.toArray⟩ ⟨sep.toArray⟩) (⟨t.toArray⟩:ByteArray).data.toList = E1 sep t:=bF h1 t
   rw [e2] at him
   have e3:Lib.cellsOf (Lib.splitB ⟨sep.toArray⟩ 0 (Lib.countB ⟨t.toArray⟩ ⟨sep.toArray⟩) ⟨t.toArray⟩) (Lib.countB ⟨t.toArray⟩ ⟨sep.toArray⟩ + 1) = ((Lib.splitB ⟨sep.toArray⟩ 0 (Lib.countB ⟨t.toArray⟩ ⟨sep.toArray⟩) ⟨t.toArray⟩).map Value.string).toArray:=by
    unfold Lib.cellsOf
    rw [hlen,Nat.sub_self,List.replicate_zero,List.append_nil]
   rw [e3] at him
   exact ⟨_,rfl,him,S0 _ _⟩
theorem RL (t sep:List UInt8) (n:Nat) (ht:t.length < 4294967281) (h1:sep ≠ []) (hn:1 ≤ n) (hn2:n ≤ 1000):B3 Tryz.prog 138 [.str t, .str sep, .i n] (.sl 1 ((K8 sep (n - 1) t).map O1)):=by
 have h1':1 ≤ (⟨sep.toArray⟩:ByteArray).size:=by
  show 1 ≤ sep.toArray.size
  rw [List.size_toArray];exact List.length_pos_iff.2 h1
 have hts:(⟨t.toArray⟩:ByteArray).size = t.length:=by show t.toArray.size = _;rw [List.size_toArray]
 refine ⟨⟨Tryz.f138,Tryz.func138,by kernel_rfl,by kernel_rfl⟩,fun X w vs hX htb hl hv=>?_⟩
 match vs,hl with
 | [y,z,u],_ =>
   have hv0:=hv 0 _ y rfl rfl
   have hv1:=hv 1 _ z rfl rfl
   have hv2:=hv 2 _ u rfl rfl
   cases hv0
   cases hv1
   cases hv2
   obtain ⟨_,m,tt,fr,he⟩:=htb.num 0 (by decide)
   refine Calls.mono (Tryz.strings_SplitN ⟨t.toArray⟩ ⟨sep.toArray⟩ n m w ht (by unfold World.cell?;simp [he]) h1' hn (by omega)) ?_
   rintro e w' ⟨rfl,rfl⟩
   rw [hts]
   have hml:min n (t.length + 1) ≤ n:=Nat.min_le_left _ _
   have hmp:1 ≤ min n (t.length + 1):=by rw [Nat.le_min];omega
   have him:=QF (w:=w) hX 9 (Lib.splitB ⟨sep.toArray⟩ 0 (min n (t.length + 1) - 1) ⟨t.toArray⟩) (min n (t.length + 1)) (by have:=Lib.splitB_length_le ⟨sep.toArray⟩ 0 (min n (t.length + 1) - 1) ⟨t.toArray⟩;omega) (by unfold maxLen;omega)
   rw [Lib.splitB_data] at him
   have e2:Lib.splitK (⟨sep.toArray⟩:ByteArray).data.toList 0 (min n (t.length + 1) - 1) (⟨t.toArray⟩:ByteArray).data.toList = K8 sep (n - 1) t:=(Hs sep _ t).trans (YG h1 n t)
   rw [e2] at him
   exact ⟨_,rfl,him,S0 _ _⟩
theorem Z8 (t sep:List UInt8) (ht:t.length < 4294967281):B3 Tryz.prog 90 [.str t, .str sep] (.i (Lib.lastIndex t sep)):=by
 refine ⟨⟨Tryz.f90,Tryz.func90,by kernel_rfl,by kernel_rfl⟩,fun X w vs hX htb hl hv=>?_⟩
 match vs,hl with
 | [y,z],_ =>
   have hv0:=hv 0 _ y rfl rfl
   have hv1:=hv 1 _ z rfl rfl
   cases hv0
   cases hv1
   refine Calls.mono (Tryz.strings_LastIndex ⟨t.toArray⟩ ⟨sep.toArray⟩ (by show t.toArray.size < _;rw [List.size_toArray];omega) w) ?_
   rintro e w' ⟨rfl,rfl⟩
   exact ⟨_,rfl, .v _,Below.refl _ _⟩
end Go.Proofs.YthkklceofokkmaaGreatDoor
namespace Go.Proofs.YthkklceofokkmaaGreatDoor
open Go Go.Av
attribute [local irreducible] E5 B7 E6 E7 DQ E8 F0 St.le B3 B5
set_option maxRecDepth 100000
theorem Tv (z:List UInt8) (hz:z.length ≤ 281474976710656) {n:Int} (h:Lib.atoiAll z = .ok n):B3 Tryz.prog 137 [.str z] (.tup [.i n, .b (decide (z.length ≤ 15 ∧ 0 ≤ n ∧ Lib.itoa n = z))]):=by
 have h1:=Rx z hz h
 obtain ⟨b1,b2⟩:=Lib.atoiAll_bounds h
 have h2:=i7 n b1 b2
 generalize Lib.itoa n = y at *
 clear h
 refine F7 Tryz.func137 29 fun hrd E h0=>?_
 clear hrd
 repeat' ((first | refine B0 h1 ?_ | refine B0 h2 ?_ |refine A1 ?_|refine S1 ?_|refine Z1 ?_|refine Z2 ?_|(refine And.intro ?_ ?_<;>intro h<;>try first|(exfalso;omega)|exact absurd rfl h)|refine Z3 ?_|refine Z4 ?_|intro el hel hbB|intro el hel|intro ex|refine Z5 ?_|(refine A8 ?_ ?_;exact ⟨by kernel_rfl,by decide⟩)|refine A7 ?_ ?_|exact A6|refine A3 ?_ ?_|exact A2|(refine A0 ?_ ?_ ?_;kernel_rfl;kernel_rfl)) <;> (try (conv=>whnf)))
 all_goals first
  | (exfalso;omega)
  | (refine a7 rfl rfl (congrArg (fun b:Bool=>AV.tup [.i n, .b b]) ?_);rw [decide_eq_false (by omega)])
  | (refine a7 rfl rfl (congrArg (fun b:Bool=>AV.tup [.i n, .b b]) ?_);rw [decide_eq_decide];exact ⟨fun h=>⟨by omega,by omega,h⟩,fun h=>h.2.2⟩)
theorem JL (z:List UInt8) (hz:z.length ≤ 281474976710656) (v:Int) (h1:B3 Tryz.prog 167 [.str z] (.tup [.v (.int .i64 v), .err])):B3 Tryz.prog 137 [.str z] (.tup [.i v, .b false]):=by
 refine F7 Tryz.func137 29 fun hrd E h0=>?_
 clear hrd
 repeat' ((first | refine B0 h1 ?_ |refine A1 ?_|refine S1 ?_|refine Z1 ?_|refine Z2 ?_|(refine And.intro ?_ ?_<;>intro h<;>try first|(exfalso;omega)|exact absurd rfl h)|refine Z3 ?_|refine Z4 ?_|intro el hel hbB|intro el hel|intro ex|refine Z5 ?_|(refine A8 ?_ ?_;exact ⟨by kernel_rfl,by decide⟩)|refine A7 ?_ ?_|exact A6|refine A3 ?_ ?_|exact A2|(refine A0 ?_ ?_ ?_;kernel_rfl;kernel_rfl)) <;> (try (conv=>whnf)))
 all_goals first
  | exact a7 rfl rfl rfl
  | (exfalso;omega)
theorem Ag (z:List UInt8) (hz:z.length ≤ 281474976710656):B3 Tryz.prog 137 [.str z] (.tup [.i (J7 z).1, .b (J7 z).2]):=by
 unfold J7
 cases h:Lib.atoiAll z with
 | ok v=>exact Tv z hz h
 | range=>exact JL z hz _ (PP z hz h)
 | _ =>exact JL z hz 0 (PO z hz h)
theorem v8 (w:List UInt8):B3 Tryz.prog 93 [.str w] (.b (Q6 w)):=by
 unfold Q6
 refine F7 Tryz.func93 9 fun hrd E h0=>?_
 clear hrd
 repeat' ((first|refine A1 ?_|refine S1 ?_|refine Z1 ?_|refine Z2 ?_|(refine And.intro ?_ ?_<;>intro h<;>try first|(exfalso;omega)|exact absurd rfl h)|refine Z3 ?_|refine Z4 ?_|intro el hel hbB|intro el hel|intro ex|refine Z5 ?_|(refine A8 ?_ ?_;exact ⟨by kernel_rfl,by decide⟩)|refine A7 ?_ ?_|exact A6|refine A3 ?_ ?_|exact A2|(refine A0 ?_ ?_ ?_;kernel_rfl;kernel_rfl)) <;> (try (conv=>whnf)))
 all_goals first
  | (refine A9 rfl (congrArg AV.b ?_);rw [eq_comm,decide_eq_false_iff_not];exact fun h=>absurd (by assumption) h.1)
  | (refine A9 rfl (congrArg AV.b ?_);rw [decide_eq_decide];exact ⟨fun h=>⟨by assumption,h⟩,fun h=>h.2⟩)
  | (refine A9 rfl (congrArg AV.b ?_);simp_all;done)
abbrev CM (s:B2) (d:F4):List AV:=[.sl 2 (s.lists.map O7), .sl 7 (s.cols.map L5), .str d.prj, .str d.src, .i d.coh.op, .i d.coh.col, .i d.coh.code, .i d.coh.lo, .i d.coh.hi, .sl 6 (d.coh.kids.map D5), .i d.part, .i d.of, .i d.seed, .row 1 0 d.qs.length]
abbrev d8 (s:B2) (d:F4):Hp:=[(0,some (.box (CM s d))),(1,some (.row E9 17 0 (d.qs.map C4)))]
set_option maxHeartbeats 8000000 in
theorem l9 (s:B2) (d:F4) (t:List UInt8) (ht:t.length ≤ 140737488355328):B5 Tryz.prog 92 2 (d8 s d) [.ref 0 0, .str t] 2 (d8 s d) (.tup [L8 (V0 s t).1, .b (decide ((V0 s t).2 = 0))]):=by
 have h1:=RI s t ht
 generalize V0 s t = C at *
 obtain ⟨c,e⟩:=C
 dsimp only at h1 ⊢
 refine G3 Tryz.func92 20 fun E h0=>?_
 repeat' ((first | refine B0 h1 ?_ |refine A1 ?_|refine S1 ?_|refine Z1 ?_|refine Z2 ?_|(refine And.intro ?_ ?_<;>intro h<;>try first|(exfalso;omega)|exact absurd rfl h)|refine Z3 ?_|refine Z4 ?_|intro el hel hbB|intro el hel|intro ex|refine Z5 ?_|(refine A8 ?_ ?_;exact ⟨by kernel_rfl,by decide⟩)|refine A7 ?_ ?_|exact A6|refine A3 ?_ ?_|exact A2|(refine A0 ?_ ?_ ?_;kernel_rfl;kernel_rfl)) <;> (try (conv=>whnf)))
 all_goals first
  | exact D0 (rvs:=[.cell 4 O0, .tmp 5]) (vs:=[_,_]) ⟨2,_,_,rfl,rfl,inferInstance,rfl,rfl,trivial⟩ rfl rfl (A5 h0 rfl ⟨rfl,rfl,trivial⟩ ⟨rfl,⟨_,rfl⟩,trivial⟩ rfl rfl rfl) rfl
theorem K4 {ws:List (List UInt8)} {i:Nat} (h:i < ws.length):ws[i]? = some (E2 ws i):=by
 rw [E2,List.getD_eq_getElem?_getD,List.getElem?_eq_getElem h];rfl
set_option maxHeartbeats 16000000 in
theorem QG (s:B2) (d:F4) (ws:List (List UInt8)) (hw:∀ w ∈ ws,w.length ≤ 20000):B5 Tryz.prog 98 2 (d8 s d) [.ref 0 0, .sl 1 (ws.map O1)] 2 (d8 s (Hy d ws).1) (.b (Hy d ws).2):=by
 unfold Hy
 by_cases hlen:ws.length = 6
 ·have g1:=K4 (ws:=ws) (i:=1) (by omega)
  have g2:=K4 (ws:=ws) (i:=2) (by omega)
  have g3:=K4 (ws:=ws) (i:=3) (by omega)
  have g4:=K4 (ws:=ws) (i:=4) (by omega)
  have g5:=K4 (ws:=ws) (i:=5) (by omega)
  have n1:=Ag (E2 ws 1) (by have:=hw _ (List.mem_of_getElem? g1);omega)
  have n3:=Ag (E2 ws 3) (by have:=hw _ (List.mem_of_getElem? g3);omega)
  have n5:=Ag (E2 ws 5) (by have:=hw _ (List.mem_of_getElem? g5);omega)
  generalize E2 ws 1 = w1 at *
  generalize E2 ws 2 = w2 at *
  generalize E2 ws 3 = w3 at *
  generalize E2 ws 4 = w4 at *
  generalize E2 ws 5 = w5 at *
  generalize J7 w1 = N1 at *
  generalize J7 w3 = N3 at *
  generalize J7 w5 = N5 at *
  obtain ⟨a1,b1⟩:=N1
  obtain ⟨a3,b3⟩:=N3
  obtain ⟨a5,b5⟩:=N5
  dsimp only at n1 n3 n5 ⊢
  clear hw
  by_cases h2:w2 = T5
  ·by_cases h4:w4 = Gl
   ·rw [if_neg (by simp [h2,h4,hlen])]
    subst h2 h4
    dsimp only
    refine G3 Tryz.func98 62 fun E h0=>?_
    repeat' ((first | (refine B1 (x:=w1) g1 (by omega) ?_) | (refine B1 (x:=T5) g2 (by omega) ?_) | (refine B1 (x:=w3) g3 (by omega) ?_) | (refine B1 (x:=Gl) g4 (by omega) ?_) | (refine B1 (x:=w5) g5 (by omega) ?_) | refine B0 n1 ?_ | refine B0 n3 ?_ | refine B0 n5 ?_ |refine A1 ?_|refine S1 ?_|refine Z1 ?_|refine Z2 ?_|(refine And.intro ?_ ?_<;>intro h<;>try first|(exfalso;omega)|exact absurd rfl h)|refine Z3 ?_|refine Z4 ?_|intro el hel hbB|intro el hel|intro ex|refine Z5 ?_|(refine A8 ?_ ?_;exact ⟨by kernel_rfl,by decide⟩)|refine A7 ?_ ?_|exact A6|refine A3 ?_ ?_|exact A2|(refine A0 ?_ ?_ ?_;kernel_rfl;kernel_rfl)) <;> (try (conv=>whnf)))
    all_goals first
     | (exfalso;omega)
     | (subst_vars;exact D4 (A5 h0 rfl ⟨rfl,trivial⟩ ⟨rfl,⟨_,rfl⟩,trivial⟩ rfl rfl rfl))
     | contradiction
   ·rw [if_pos (.inr (.inr h4))]
    subst h2
    dsimp only
    refine G3 Tryz.func98 62 fun E h0=>?_
    repeat' ((first | (refine B1 (x:=T5) g2 (by omega) ?_) | (refine B1 (x:=w4) g4 (by omega) ?_) |refine A1 ?_|refine S1 ?_|refine Z1 ?_|refine Z2 ?_|(refine And.intro ?_ ?_<;>intro h<;>try first|(exfalso;omega)|exact absurd rfl h)|refine Z3 ?_|refine Z4 ?_|intro el hel hbB|intro el hel|intro ex|refine Z5 ?_|(refine A8 ?_ ?_;exact ⟨by kernel_rfl,by decide⟩)|refine A7 ?_ ?_|exact A6|refine A3 ?_ ?_|exact A2|(refine A0 ?_ ?_ ?_;kernel_rfl;kernel_rfl)) <;> (try (conv=>whnf)))
    all_goals first
     | (exfalso;omega)
     | exact D4 (A5 h0 rfl ⟨rfl,trivial⟩ ⟨rfl,⟨_,rfl⟩,trivial⟩ rfl rfl rfl)
     | contradiction
  ·rw [if_pos (.inr (.inl h2))]
   dsimp only
   refine G3 Tryz.func98 62 fun E h0=>?_
   repeat' ((first | (refine B1 (x:=w2) g2 (by omega) ?_) |refine A1 ?_|refine S1 ?_|refine Z1 ?_|refine Z2 ?_|(refine And.intro ?_ ?_<;>intro h<;>try first|(exfalso;omega)|exact absurd rfl h)|refine Z3 ?_|refine Z4 ?_|intro el hel hbB|intro el hel|intro ex|refine Z5 ?_|(refine A8 ?_ ?_;exact ⟨by kernel_rfl,by decide⟩)|refine A7 ?_ ?_|exact A6|refine A3 ?_ ?_|exact A2|(refine A0 ?_ ?_ ?_;kernel_rfl;kernel_rfl)) <;> (try (conv=>whnf)))
   all_goals first
    | (exfalso;omega)
    | exact D4 (A5 h0 rfl ⟨rfl,trivial⟩ ⟨rfl,⟨_,rfl⟩,trivial⟩ rfl rfl rfl)
    | contradiction
 ·rw [if_pos (.inl hlen)]
  dsimp only
  refine G3 Tryz.func98 62 fun E h0=>?_
  repeat' ((first|refine A1 ?_|refine S1 ?_|refine Z1 ?_|refine Z2 ?_|(refine And.intro ?_ ?_<;>intro h<;>try first|(exfalso;omega)|exact absurd rfl h)|refine Z3 ?_|refine Z4 ?_|intro el hel hbB|intro el hel|intro ex|refine Z5 ?_|(refine A8 ?_ ?_;exact ⟨by kernel_rfl,by decide⟩)|refine A7 ?_ ?_|exact A6|refine A3 ?_ ?_|exact A2|(refine A0 ?_ ?_ ?_;kernel_rfl;kernel_rfl)) <;> (try (conv=>whnf)))
  all_goals first
   | (exfalso;omega)
   | exact D4 (A5 h0 rfl ⟨rfl,trivial⟩ ⟨rfl,⟨_,rfl⟩,trivial⟩ rfl rfl rfl)
end Go.Proofs.YthkklceofokkmaaGreatDoor
