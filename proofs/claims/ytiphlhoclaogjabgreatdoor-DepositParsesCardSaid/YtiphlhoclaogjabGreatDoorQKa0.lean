/- Chapter 3: check values, numbers of words, rows that are put in their place. -/
import Derived.Test.YtiphlhoclaogjabGreatDoorQSj
import Derived.Test.YtiphlhoclaogjabGreatDoorQNm1
import Derived.Test.YtiphlhoclaogjabGreatDoorQRp2
set_option linter.unusedVariables false
set_option linter.unnecessarySimpa false
set_option linter.unusedSimpArgs false
namespace Go.Proofs.YtiphlhoclaogjabGreatDoor
open Go Go.Av
attribute [local irreducible] D6 B8 D8 D7 DQ E0 E1 St.le B4 B9
set_option maxRecDepth 100000
def q9:List UInt8 → Nat → Nat
 | [],h=>h
 | c :: r,h=>q9 r ((h * 33 + c.toNat) % 1000003)
abbrev R7 (t:List UInt8):Int:=(q9 t 7:Nat)
theorem Is:∀ (t:List UInt8) (h:Nat),h < 1000003 → q9 t h < 1000003
 | [],h,hh=>hh
 | c :: r,h,hh=>Is r _ (Nat.mod_lt _ (by decide))
theorem Jm {t:List UInt8} {k h:Nat} {c:UInt8} (hc:t[k]? = some c):q9 (t.drop k) h = q9 (t.drop (k + 1)) ((h * 33 + c.toNat) % 1000003):=by
 rw [S3 hc];rfl
theorem MF (h c:Nat):((h:Int) * 33 + (c:Int)).tmod 1000003 = ((h * 33 + c) % 1000003:Nat):=by
 rw [Int.tmod_eq_emod_of_nonneg (by omega)];omega
set_option maxHeartbeats 4000000 in
theorem Dk (t:List UInt8) (ht:t.length ≤ 9223372036854775807):B4 Tryz.prog 12 [.str t] (.i (R7 t)):=by
 refine F3 Tryz.func12 21 fun hrd E h0=>?_
 clear hrd
 repeat' ((first|refine A4 ?_|refine S1 ?_|refine Z1 ?_|refine Z2 ?_|(refine And.intro ?_ ?_<;>intro h<;>try first|(exfalso;omega)|exact absurd rfl h)|refine Z3 ?_|refine Z4 ?_|intro el hel hbB|intro el hel|intro ex|refine Z5 ?_|(refine A9 ?_ ?_;exact ⟨by kernel_rfl,by decide⟩)|refine A8 ?_ ?_|exact A7|refine A6 ?_ ?_|exact A5|(refine A0 ?_ ?_ ?_;kernel_rfl;kernel_rfl)) <;> (try (conv=>whnf)))
 refine C2 (ι:=Nat × Nat) (fun x=>⟨[(3, .i x.1),(7, .sl 1 (t.map T7)),(8, .i t.length),(9, .i x.2)],0,[]⟩) (fun x=>x.2 ≤ t.length ∧ x.1 < 1000003 ∧ q9 t 7 = q9 (t.drop x.2) x.1) (fun x=>t.length - x.2) (7,0) ⟨Nat.zero_le _,by decide,rfl⟩ (B0 h0 rfl ⟨rfl,rfl,rfl,rfl,trivial⟩ trivial rfl rfl rfl) (fun x hI=>?_)
 obtain ⟨g,k⟩:=x
 obtain ⟨hk,hh,hI⟩:=hI
 dsimp only at hk hh hI ⊢
 by_cases hlt:k < t.length
 ·obtain ⟨c,hc⟩:∃ c,t[k]? = some c:=⟨_,List.getElem?_eq_getElem hlt⟩
  have hc8:c.toNat < 256:=c.toNat_lt
  have hst:=Jm (h:=g) hc
  have htm:=MF g c.toNat
  have hm:=Nat.mod_lt (g * 33 + c.toNat) (show 0 < 1000003 by decide)
  generalize (g * 33 + c.toNat) % 1000003 = g' at *
  repeat' ((first | (refine A3 (x:=c) hc (by omega) ?_) |refine A4 ?_|refine S1 ?_|refine Z1 ?_|refine Z2 ?_|(refine And.intro ?_ ?_<;>intro h<;>try first|(exfalso;omega)|exact absurd rfl h)|refine Z3 ?_|refine Z4 ?_|intro el hel hbB|intro el hel|intro ex|refine Z5 ?_|(refine A9 ?_ ?_;exact ⟨by kernel_rfl,by decide⟩)|refine A8 ?_ ?_|exact A7|refine A6 ?_ ?_|exact A5|(refine A0 ?_ ?_ ?_;kernel_rfl;kernel_rfl)) <;> (try (conv=>whnf)))
  all_goals first
   | exact ⟨(g',k + 1),⟨by dsimp only;omega,hm,hI.trans hst⟩,by dsimp only;omega,B0 h0 rfl ⟨congrArg (fun z:Int=>some (AV.i z)) htm,rfl,rfl,rfl,trivial⟩ trivial rfl rfl rfl⟩
   | (exfalso;omega)
 ·repeat' ((first|refine A4 ?_|refine S1 ?_|refine Z1 ?_|refine Z2 ?_|(refine And.intro ?_ ?_<;>intro h<;>try first|(exfalso;omega)|exact absurd rfl h)|refine Z3 ?_|refine Z4 ?_|intro el hel hbB|intro el hel|intro ex|refine Z5 ?_|(refine A9 ?_ ?_;exact ⟨by kernel_rfl,by decide⟩)|refine A8 ?_ ?_|exact A7|refine A6 ?_ ?_|exact A5|(refine A0 ?_ ?_ ?_;kernel_rfl;kernel_rfl)) <;> (try (conv=>whnf)))
  all_goals first
   | (refine B5 rfl (congrArg AV.i ?_);show (g:Int) = (q9 t 7:Nat);rw [hI,List.drop_of_length_le (by omega)];rfl)
   | (exfalso;omega)
set_option maxHeartbeats 4000000 in
theorem Ev (t:List UInt8) (ht:t.length ≤ 9223372036854775807):B4 Tryz.prog 13 [.str t] (.i (R7 t)):=by
 refine F3 Tryz.func13 20 fun hrd E h0=>?_
 clear hrd
 repeat' ((first|refine A4 ?_|refine S1 ?_|refine Z1 ?_|refine Z2 ?_|(refine And.intro ?_ ?_<;>intro h<;>try first|(exfalso;omega)|exact absurd rfl h)|refine Z3 ?_|refine Z4 ?_|intro el hel hbB|intro el hel|intro ex|refine Z5 ?_|(refine A9 ?_ ?_;exact ⟨by kernel_rfl,by decide⟩)|refine A8 ?_ ?_|exact A7|refine A6 ?_ ?_|exact A5|(refine A0 ?_ ?_ ?_;kernel_rfl;kernel_rfl)) <;> (try (conv=>whnf)))
 refine C2 (ι:=Nat × Nat) (fun x=>⟨[(0, .str t),(3, .i x.1),(4, .i x.2)],0,[]⟩) (fun x=>x.2 ≤ t.length ∧ x.1 < 1000003 ∧ q9 t 7 = q9 (t.drop x.2) x.1) (fun x=>t.length - x.2) (7,0) ⟨Nat.zero_le _,by decide,rfl⟩ (B0 h0 rfl ⟨rfl,rfl,rfl,trivial⟩ trivial rfl rfl rfl) (fun x hI=>?_)
 obtain ⟨g,k⟩:=x
 obtain ⟨hk,hh,hI⟩:=hI
 dsimp only at hk hh hI ⊢
 by_cases hlt:k < t.length
 ·obtain ⟨c,hc⟩:∃ c,t[k]? = some c:=⟨_,List.getElem?_eq_getElem hlt⟩
  have hc8:c.toNat < 256:=c.toNat_lt
  have hst:=Jm (h:=g) hc
  have htm:=MF g c.toNat
  have hm:=Nat.mod_lt (g * 33 + c.toNat) (show 0 < 1000003 by decide)
  generalize (g * 33 + c.toNat) % 1000003 = g' at *
  repeat' ((first | (refine k8 (x:=c) hc (by omega) ?_) |refine A4 ?_|refine S1 ?_|refine Z1 ?_|refine Z2 ?_|(refine And.intro ?_ ?_<;>intro h<;>try first|(exfalso;omega)|exact absurd rfl h)|refine Z3 ?_|refine Z4 ?_|intro el hel hbB|intro el hel|intro ex|refine Z5 ?_|(refine A9 ?_ ?_;exact ⟨by kernel_rfl,by decide⟩)|refine A8 ?_ ?_|exact A7|refine A6 ?_ ?_|exact A5|(refine A0 ?_ ?_ ?_;kernel_rfl;kernel_rfl)) <;> (try (conv=>whnf)))
  all_goals first
   | exact ⟨(g',k + 1),⟨by dsimp only;omega,hm,hI.trans hst⟩,by dsimp only;omega,B0 h0 rfl ⟨rfl,congrArg (fun z:Int=>some (AV.i z)) htm,rfl,trivial⟩ trivial rfl rfl rfl⟩
   | (exfalso;omega)
 ·repeat' ((first|refine A4 ?_|refine S1 ?_|refine Z1 ?_|refine Z2 ?_|(refine And.intro ?_ ?_<;>intro h<;>try first|(exfalso;omega)|exact absurd rfl h)|refine Z3 ?_|refine Z4 ?_|intro el hel hbB|intro el hel|intro ex|refine Z5 ?_|(refine A9 ?_ ?_;exact ⟨by kernel_rfl,by decide⟩)|refine A8 ?_ ?_|exact A7|refine A6 ?_ ?_|exact A5|(refine A0 ?_ ?_ ?_;kernel_rfl;kernel_rfl)) <;> (try (conv=>whnf)))
  all_goals first
   | (refine B5 rfl (congrArg AV.i ?_);show (g:Int) = (q9 t 7:Nat);rw [hI,List.drop_of_length_le (by omega)];rfl)
   | (exfalso;omega)
def H4 (z:List UInt8):Int × Bool :=
 if 15 < (H9 [45] z).1.length then (0,false) else match Lib.atoiAll z with
  | .ok v=>(v,decide (Lib.itoa v = z))
  | .range=>(Lib.atoiSat z,false)
  | _=>(0,false)
theorem RS (z:List UInt8) (hz:z.length ≤ 281474976710656) (h15:15 < (H9 [45] z).1.length):B4 Tryz.prog 41 [.str z] (.tup [.i 0, .b false]):=by
 have r1:=e9 z [45] (by omega) (by decide)
 generalize (H9 [45] z).1 = d at *
 refine F3 Tryz.func41 24 fun hrd E h0=>?_
 clear hrd
 repeat' ((first | refine B2 r1 ?_ |refine A4 ?_|refine S1 ?_|refine Z1 ?_|refine Z2 ?_|(refine And.intro ?_ ?_<;>intro h<;>try first|(exfalso;omega)|exact absurd rfl h)|refine Z3 ?_|refine Z4 ?_|intro el hel hbB|intro el hel|intro ex|refine Z5 ?_|(refine A9 ?_ ?_;exact ⟨by kernel_rfl,by decide⟩)|refine A8 ?_ ?_|exact A7|refine A6 ?_ ?_|exact A5|(refine A0 ?_ ?_ ?_;kernel_rfl;kernel_rfl)) <;> (try (conv=>whnf)))
 all_goals first
  | exact p6 rfl rfl rfl
  | (exfalso;omega)
theorem WT (z:List UInt8) (hz:z.length ≤ 281474976710656) (h15:¬ 15 < (H9 [45] z).1.length) {n:Int} (h:Lib.atoiAll z = .ok n):B4 Tryz.prog 41 [.str z] (.tup [.i n, .b (decide (Lib.itoa n = z))]):=by
 have r1:=e9 z [45] (by omega) (by decide)
 generalize (H9 [45] z).1 = d at *
 have h1:=Vw z hz h
 obtain ⟨b1,b2⟩:=Lib.atoiAll_bounds h
 have h2:=G7 n b1 b2
 generalize Lib.itoa n = y at *
 clear h
 refine F3 Tryz.func41 24 fun hrd E h0=>?_
 clear hrd
 repeat' ((first | refine B2 r1 ?_ | refine B2 h1 ?_ | refine B2 h2 ?_ |refine A4 ?_|refine S1 ?_|refine Z1 ?_|refine Z2 ?_|(refine And.intro ?_ ?_<;>intro h<;>try first|(exfalso;omega)|exact absurd rfl h)|refine Z3 ?_|refine Z4 ?_|intro el hel hbB|intro el hel|intro ex|refine Z5 ?_|(refine A9 ?_ ?_;exact ⟨by kernel_rfl,by decide⟩)|refine A8 ?_ ?_|exact A7|refine A6 ?_ ?_|exact A5|(refine A0 ?_ ?_ ?_;kernel_rfl;kernel_rfl)) <;> (try (conv=>whnf)))
 all_goals first
  | (exfalso;omega)
  | exact p6 rfl rfl rfl
theorem MG (z:List UInt8) (hz:z.length ≤ 281474976710656) (h15:¬ 15 < (H9 [45] z).1.length) (v:Int) (h1:B4 Tryz.prog 72 [.str z] (.tup [.v (.int .i64 v), .err])):B4 Tryz.prog 41 [.str z] (.tup [.i v, .b false]):=by
 have r1:=e9 z [45] (by omega) (by decide)
 generalize (H9 [45] z).1 = d at *
 refine F3 Tryz.func41 24 fun hrd E h0=>?_
 clear hrd
 repeat' ((first | refine B2 r1 ?_ | refine B2 h1 ?_ |refine A4 ?_|refine S1 ?_|refine Z1 ?_|refine Z2 ?_|(refine And.intro ?_ ?_<;>intro h<;>try first|(exfalso;omega)|exact absurd rfl h)|refine Z3 ?_|refine Z4 ?_|intro el hel hbB|intro el hel|intro ex|refine Z5 ?_|(refine A9 ?_ ?_;exact ⟨by kernel_rfl,by decide⟩)|refine A8 ?_ ?_|exact A7|refine A6 ?_ ?_|exact A5|(refine A0 ?_ ?_ ?_;kernel_rfl;kernel_rfl)) <;> (try (conv=>whnf)))
 all_goals first
  | exact p6 rfl rfl rfl
  | (exfalso;omega)
theorem x9 (z:List UInt8) (hz:z.length ≤ 281474976710656):B4 Tryz.prog 41 [.str z] (.tup [.i (H4 z).1, .b (H4 z).2]):=by
 unfold H4
 by_cases h15:15 < (H9 [45] z).1.length
 ·rw [if_pos h15];exact RS z hz h15
 ·rw [if_neg h15]
  cases h:Lib.atoiAll z with
  | ok v=>exact WT z hz h15 h
  | range=>exact MG z hz h15 _ (TI z hz h)
  | _=>exact MG z hz h15 0 (TH z hz h)
abbrev D2 (r:List Int):List AV:=[.sl 1 (r.map wA)]
def U4 (row:List Int):List (List Int) × Bool → List Int → List (List Int) × Bool
 | (out,done),x=>if x.headD 0 = row.headD 0 then (out,done) else if row.headD 0 < x.headD 0 ∧ done = false then (out ++ [row] ++ [x],true) else (out ++ [x],done)
def l9 (l:List (List Int)) (row:List Int):List (List Int) :=
 let q:=l.foldl (U4 row) ([],false)
 if q.2 = true then q.1 else q.1 ++ [row]
theorem Tr {l:List (List Int)} {row x:List Int} {k:Nat} (hx:l[k]? = some x):(l.take (k + 1)).foldl (U4 row) ([],false) = U4 row ((l.take k).foldl (U4 row) ([],false)) x:=by
 rw [Q2 hx,List.foldl_append];rfl
theorem It (row:List Int):∀ (l:List (List Int)) (q:List (List Int) × Bool),(l.foldl (U4 row) q).1.length + (if q.2 = true then 1 else 0) ≤ q.1.length + l.length + (if (l.foldl (U4 row) q).2 = true then 1 else 0)
 | [],q=>Nat.le_refl _
 | x :: r,(out,done)=>by
   have ih:=It row r (U4 row (out,done) x)
   rw [List.foldl_cons]
   have h1:(U4 row (out,done) x).1.length + (if done = true then 1 else 0) ≤ out.length + 1 + (if (U4 row (out,done) x).2 = true then 1 else 0):=by
    simp only [U4]
    split
    ·dsimp only;omega
    ·split
     ·rename_i h;rw [h.2];simp
     ·simp
   rw [List.length_cons]
   dsimp only at ih ⊢
   omega
theorem MH (l:List (List Int)) (row:List Int):(l9 l row).length ≤ l.length + 1:=by
 have h:=It row l ([],false)
 unfold l9
 dsimp only at h ⊢
 split
 ·rename_i h2;rw [if_pos h2] at h;simp at h;omega
 ·rename_i h2;rw [if_neg h2] at h;simp at h ⊢;omega
set_option maxHeartbeats 8000000 in
theorem Ts (l:List (List Int)) (row:List Int) (hl:l.length ≤ 1000000) (h1:∀ x ∈ l,x ≠ []) (h2:row ≠ []):B4 Tryz.prog 21 [.sl 1 (l.map D2), .sl 1 (row.map wA)] (.sl 1 ((l9 l row).map D2)):=by
 obtain ⟨r0,hr0⟩:∃ z,row[0]? = some z:=⟨_,List.getElem?_eq_getElem (List.length_pos_iff.2 h2)⟩
 have hrd0:row.headD 0 = r0:=by cases row with | nil=>cases hr0 | cons a r=>simp at hr0;exact hr0
 refine F3 Tryz.func21 56 fun hrd E h0=>?_
 clear hrd
 repeat' ((first|refine A4 ?_|refine S1 ?_|refine Z1 ?_|refine Z2 ?_|(refine And.intro ?_ ?_<;>intro h<;>try first|(exfalso;omega)|exact absurd rfl h)|refine Z3 ?_|refine Z4 ?_|intro el hel hbB|intro el hel|intro ex|refine Z5 ?_|(refine A9 ?_ ?_;exact ⟨by kernel_rfl,by decide⟩)|refine A8 ?_ ?_|exact A7|refine A6 ?_ ?_|exact A5|(refine A0 ?_ ?_ ?_;kernel_rfl;kernel_rfl)) <;> (try (conv=>whnf)))
 have hN:=It row
 refine C2 (ι:=Nat × List (List Int) × Bool) (fun x=>⟨[(0, .sl 1 (l.map D2)),(1, .sl 1 (row.map wA)),(5, .row 0 0 x.2.1.length),(6, .b x.2.2),(7, .i x.1)],1,[(0,some (.row 29 1 0 (x.2.1.map D2)))]⟩) (fun x=>x.1 ≤ l.length ∧ (l.take x.1).foldl (U4 row) ([],false) = x.2) (fun x=>l.length - x.1) (0,[],false) ⟨Nat.zero_le _,rfl⟩
  (C3 (AL (d:=5) (e:=29) (sz:=1) rfl) (B0 h0 rfl ⟨rfl,rfl,rfl,rfl,rfl,trivial⟩ ⟨⟨0,rfl⟩,trivial⟩ rfl rfl rfl)) (fun x hI=>?_)
 obtain ⟨k,out,done⟩:=x
 obtain ⟨hk,hI⟩:=hI
 dsimp only at hk hI ⊢
 have hlen:=hN (l.take k) ([],false)
 rw [hI] at hlen
 have hout:out.length ≤ 1000001:=by
  simp only [List.length_take,List.length_nil] at hlen
  split at hlen <;> split at hlen <;> omega
 clear hlen hN
 by_cases hlt:k < l.length
 ·obtain ⟨x,hx⟩:∃ x,l[k]? = some x:=⟨_,List.getElem?_eq_getElem hlt⟩
  have hx1:=h1 x (List.mem_of_getElem? hx)
  obtain ⟨x0,hx0⟩:∃ z,x[0]? = some z:=⟨_,List.getElem?_eq_getElem (List.length_pos_iff.2 hx1)⟩
  have hxd:x.headD 0 = x0:=by cases x with | nil=>cases hx0 | cons a r=>simp at hx0;exact hx0
  have hst:=Tr (row:=row) hx
  rw [hI] at hst
  simp only [U4,hxd,hrd0] at hst
  by_cases e1:x0 = r0
  ·rw [if_pos e1] at hst
   repeat' ((first | (refine A3 (x:=x) hx (by omega) ?_) | (refine A3 (x:=x0) hx0 (by omega) ?_) | (refine A3 (x:=r0) hr0 (by omega) ?_) | (refine E3 ?_ ?_;kernel_rfl) |refine A4 ?_|refine S1 ?_|refine Z1 ?_|refine Z2 ?_|(refine And.intro ?_ ?_<;>intro h<;>try first|(exfalso;omega)|exact absurd rfl h)|refine Z3 ?_|refine Z4 ?_|intro el hel hbB|intro el hel|intro ex|refine Z5 ?_|(refine A9 ?_ ?_;exact ⟨by kernel_rfl,by decide⟩)|refine A8 ?_ ?_|exact A7|refine A6 ?_ ?_|exact A5|(refine A0 ?_ ?_ ?_;kernel_rfl;kernel_rfl)) <;> (try (conv=>whnf)))
   all_goals first
    | exact ⟨(k + 1,out,done),⟨by dsimp only;omega,hst⟩,by dsimp only;omega,B0 h0 rfl ⟨rfl,rfl,rfl,rfl,rfl,trivial⟩ ⟨⟨_,rfl⟩,trivial⟩ rfl rfl rfl⟩
    | (exfalso;omega)
  ·rw [if_neg e1] at hst
   cases hd:done with
   | true =>
     subst hd
     rw [if_neg (by simp)] at hst
     repeat' ((first | (refine A3 (x:=x) hx (by omega) ?_) | (refine A3 (x:=x0) hx0 (by omega) ?_) | (refine A3 (x:=r0) hr0 (by omega) ?_) | (refine E3 ?_ ?_;kernel_rfl) |refine A4 ?_|refine S1 ?_|refine Z1 ?_|refine Z2 ?_|(refine And.intro ?_ ?_<;>intro h<;>try first|(exfalso;omega)|exact absurd rfl h)|refine Z3 ?_|refine Z4 ?_|intro el hel hbB|intro el hel|intro ex|refine Z5 ?_|(refine A9 ?_ ?_;exact ⟨by kernel_rfl,by decide⟩)|refine A8 ?_ ?_|exact A7|refine A6 ?_ ?_|exact A5|(refine A0 ?_ ?_ ?_;kernel_rfl;kernel_rfl)) <;> (try (conv=>whnf)))
     all_goals first
      | exact ⟨(k + 1,out ++ [x],true),⟨by dsimp only;omega,hst⟩,by dsimp only;omega,B0 h0 rfl ⟨rfl,rfl,congrArg (fun z=>some (AV.row 0 0 z)) (by simp [M7]),rfl,rfl,trivial⟩ ⟨⟨_,congrArg (C6.row 29 1 _) (by rw [List.map_append];rfl)⟩,trivial⟩ rfl rfl rfl⟩
      | (exfalso;omega)
   | false =>
     subst hd
     by_cases e2:r0 < x0
     ·rw [if_pos ⟨e2,rfl⟩] at hst
      repeat' ((first | (refine A3 (x:=x) hx (by omega) ?_) | (refine A3 (x:=x0) hx0 (by omega) ?_) | (refine A3 (x:=r0) hr0 (by omega) ?_) | (refine E3 ?_ ?_;kernel_rfl) |refine A4 ?_|refine S1 ?_|refine Z1 ?_|refine Z2 ?_|(refine And.intro ?_ ?_<;>intro h<;>try first|(exfalso;omega)|exact absurd rfl h)|refine Z3 ?_|refine Z4 ?_|intro el hel hbB|intro el hel|intro ex|refine Z5 ?_|(refine A9 ?_ ?_;exact ⟨by kernel_rfl,by decide⟩)|refine A8 ?_ ?_|exact A7|refine A6 ?_ ?_|exact A5|(refine A0 ?_ ?_ ?_;kernel_rfl;kernel_rfl)) <;> (try (conv=>whnf)))
      all_goals first
       | exact ⟨(k + 1,out ++ [row] ++ [x],true),⟨by dsimp only;omega,hst⟩,by dsimp only;omega,B0 h0 rfl ⟨rfl,rfl,congrArg (fun z=>some (AV.row 0 0 z)) (by simp [M7]),rfl,rfl,trivial⟩ ⟨⟨_,congrArg (C6.row 29 1 _) (by rw [List.map_append,List.map_append];rfl)⟩,trivial⟩ rfl rfl rfl⟩
       | (exfalso;omega)
     ·rw [if_neg (fun h=>e2 h.1)] at hst
      repeat' ((first | (refine A3 (x:=x) hx (by omega) ?_) | (refine A3 (x:=x0) hx0 (by omega) ?_) | (refine A3 (x:=r0) hr0 (by omega) ?_) | (refine E3 ?_ ?_;kernel_rfl) |refine A4 ?_|refine S1 ?_|refine Z1 ?_|refine Z2 ?_|(refine And.intro ?_ ?_<;>intro h<;>try first|(exfalso;omega)|exact absurd rfl h)|refine Z3 ?_|refine Z4 ?_|intro el hel hbB|intro el hel|intro ex|refine Z5 ?_|(refine A9 ?_ ?_;exact ⟨by kernel_rfl,by decide⟩)|refine A8 ?_ ?_|exact A7|refine A6 ?_ ?_|exact A5|(refine A0 ?_ ?_ ?_;kernel_rfl;kernel_rfl)) <;> (try (conv=>whnf)))
      all_goals first
       | exact ⟨(k + 1,out ++ [x],false),⟨by dsimp only;omega,hst⟩,by dsimp only;omega,B0 h0 rfl ⟨rfl,rfl,congrArg (fun z=>some (AV.row 0 0 z)) (by simp [M7]),rfl,rfl,trivial⟩ ⟨⟨_,congrArg (C6.row 29 1 _) (by rw [List.map_append];rfl)⟩,trivial⟩ rfl rfl rfl⟩
       | (exfalso;omega)
 ·obtain rfl:k = l.length:=by omega
  rw [List.take_length] at hI
  have hP:l9 l row = if done = true then out else out ++ [row]:=by unfold l9;rw [hI]
  cases done with
  | true =>
    rw [hP,if_pos rfl]
    repeat' ((first|refine A4 ?_|refine S1 ?_|refine Z1 ?_|refine Z2 ?_|(refine And.intro ?_ ?_<;>intro h<;>try first|(exfalso;omega)|exact absurd rfl h)|refine Z3 ?_|refine Z4 ?_|intro el hel hbB|intro el hel|intro ex|refine Z5 ?_|(refine A9 ?_ ?_;exact ⟨by kernel_rfl,by decide⟩)|refine A8 ?_ ?_|exact A7|refine A6 ?_ ?_|exact A5|(refine A0 ?_ ?_ ?_;kernel_rfl;kernel_rfl)) <;> (try (conv=>whnf)))
    all_goals first
     | exact B5 rfl rfl
     | (exfalso;omega)
  | false =>
    rw [hP,if_neg (by simp)]
    repeat' ((first|refine A4 ?_|refine S1 ?_|refine Z1 ?_|refine Z2 ?_|(refine And.intro ?_ ?_<;>intro h<;>try first|(exfalso;omega)|exact absurd rfl h)|refine Z3 ?_|refine Z4 ?_|intro el hel hbB|intro el hel|intro ex|refine Z5 ?_|(refine A9 ?_ ?_;exact ⟨by kernel_rfl,by decide⟩)|refine A8 ?_ ?_|exact A7|refine A6 ?_ ?_|exact A5|(refine A0 ?_ ?_ ?_;kernel_rfl;kernel_rfl)) <;> (try (conv=>whnf)))
    all_goals first
     | exact B5 rfl (congrArg (AV.sl 1) (by rw [List.map_append];rfl))
     | (exfalso;omega)
end Go.Proofs.YtiphlhoclaogjabGreatDoor
