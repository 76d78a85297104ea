/- Chapter 3: the reference's Print. -/
import Derived.Test.YtiphlhoclaogjabGreatDoorQKa9
set_option linter.unusedVariables false
set_option linter.unnecessarySimpa false
set_option linter.unusedSimpArgs false
namespace Go.Proofs.YtiphlhoclaogjabGreatDoor
open Go Go.Av
attribute [local irreducible] D6 B8 D8 D7 DQ E0 E1 St.le B4 B9
set_option maxRecDepth 100000
theorem Nx (s:C4) (rows:List (List Int)):K4 s rows = if ¬ Bo s rows = 0 then ([],Bo s rows) else if 20000 < (m8 s rows).length then ([],1) else (m8 s rows,0):=by
 unfold K4 Bo
 by_cases h1:H6 s = 0
 ·by_cases h2:200 < rows.length
  ·simp only [h1,h2,if_true,not_true_eq_false,if_false];rfl
  ·by_cases h3:(rows.any fun r=>!J8 s r) = true
   ·simp only [h1,h2,h3,if_true,not_true_eq_false,if_false];rfl
   ·by_cases h4:(G3 rows).Nodup
    ·simp only [h1,h2,h3,h4,if_true,not_true_eq_false,if_false,Bool.false_eq_true]
    ·simp only [h1,h2,h3,h4,if_true,not_true_eq_false,not_false_eq_true,if_false,Bool.false_eq_true];rfl
 ·rw [if_pos h1,if_pos h1,if_pos h1]
theorem YP {s:C4} {rows:List (List Int)} (h:Bo s rows = 0):H6 s = 0 ∧ rows.length ≤ 200 ∧ (∀ r ∈ rows,J8 s r = true) ∧ (G3 rows).Nodup:=by
 unfold Bo at h
 by_cases h1:H6 s = 0
 ·rw [if_neg (by simp [h1])] at h
  split at h
  ·cases h
  ·split at h
   ·cases h
   ·split at h
    ·cases h
    ·rename_i h2 h3 h4
     exact ⟨h1,by omega,fun r hr=>by
      rw [Bool.not_eq_true] at h3
      simpa using List.any_eq_false.1 h3 r hr,Decidable.of_not_not h4⟩
 ·rw [if_pos h1] at h
  exact absurd h h1
theorem Rc (n:List UInt8):[108,105,115,116,32] ++ n ++ [10] = C7 [I8,n]:=by simp [C7,Lib.join_cons,Lib.joinTail]
theorem Re (n p:List UInt8):[99,111,100,101,32] ++ n ++ [32] ++ p ++ [10] = C7 [W0,n,p]:=by simp [C7,Lib.join_cons,Lib.joinTail]
theorem UE (p:List UInt8):[115,117,109,32] ++ p ++ [10] = C7 [L7,p]:=by simp [C7,Lib.join_cons,Lib.joinTail]
theorem PR {α:Type} {f:α → List UInt8} {l:List α} {k:Nat} {x:α} (X:List UInt8) (h:l[k]? = some x):X ++ (l.take k).flatMap f ++ f x = X ++ (l.take (k + 1)).flatMap f:=by rw [W2 f l k h,List.append_assoc]
set_option maxHeartbeats 16000000 in
theorem FA (s:C4) (rows:List (List Int)):B4 Tryz.prog 11 [sA s, .sl 1 (rows.map D2)] (.tup [.str (K4 s rows).1, .i (K4 s rows).2]):=by
 have hck:=MM s rows
 rw [Nx]
 by_cases hc0:Bo s rows = 0
 ·rw [if_neg (by simp [hc0])]
  obtain ⟨hr,hn,hfit,_⟩:=YP hc0
  rw [hc0] at hck
  obtain ⟨q1,q2,q3,q4,q5⟩:=J7 hr
  have hls:∀ l ∈ s.lists,_:=fun l hl=>Iv hr hl
  have hH:=Iw hr
  have hHd:AE s = s.lists.flatMap Z6 ++ s.cols.flatMap fun c=>C7 (D9 c):=rfl
  rw [hHd,List.length_append] at hH
  have hpl:=Z8 Z6 s.lists
  have hpc:=Z8 (fun c=>C7 (D9 c)) s.cols
  have hpr:=Z8 (W1 s) rows
  have hall:(rows.flatMap (W1 s)).length ≤ rows.length * 199:=d6 fun r h=>(Cv hr (hfit r h)).2.2
  have hF:m8 s rows = AE s ++ rows.flatMap (W1 s) ++ C7 (r8 (N4 s rows)):=rfl
  have hB:N4 s rows = AE s ++ rows.flatMap (W1 s):=rfl
  rw [hHd] at hF hB
  generalize hFL:m8 s rows = FL at *
  refine F3 Tryz.func11 127 fun hrd E h0=>?_
  clear hrd
  repeat' ((first | refine B2 hck ?_ |refine A4 ?_|refine S1 ?_|refine Z1 ?_|refine Z2 ?_|(refine And.intro ?_ ?_<;>intro h<;>try first|(exfalso;omega)|exact absurd rfl h)|refine Z3 ?_|refine Z4 ?_|intro el hel hbB|intro el hel|intro ex|refine Z5 ?_|(refine A9 ?_ ?_;exact ⟨by kernel_rfl,by decide⟩)|refine A8 ?_ ?_|exact A7|refine A6 ?_ ?_|exact A5|(refine A0 ?_ ?_ ?_;kernel_rfl;kernel_rfl)) <;> (try (conv=>whnf)))
  all_goals first
   | (exfalso;omega)
   | skip
  refine C2 (ι:=Nat) (fun k=>⟨[(1, .sl 1 (rows.map D2)),(2, .ref 0 0),(7, .str ((s.lists.take k).flatMap Z6)),(8, .i k)],1,[(0,some (.box (sL s)))]⟩) (fun k=>k ≤ s.lists.length) (fun k=>s.lists.length - k) 0 (Nat.zero_le _)
   (B0 h0 rfl ⟨rfl,rfl,rfl,rfl,trivial⟩ ⟨rfl,trivial⟩ rfl rfl rfl) (fun k hk=>?_)
  by_cases hlt:k < s.lists.length
  ·obtain ⟨l,hl⟩:∃ l,s.lists[k]? = some l:=⟨_,List.getElem?_eq_getElem hlt⟩
   have hch:=q3 l (List.mem_of_getElem? hl)
   have hc60:=(M3 hch).2.2
   have hcp:∀ c ∈ l.2,_:=fun c hc=>FZ hch hc
   have hpk:=hpl (k + 1)
   have hsn:=W2 Z6 s.lists k hl
   have hlT:Z6 l = C7 [I8,l.1] ++ l.2.flatMap fun c=>C7 (N1 c):=rfl
   rw [hsn,List.length_append,hlT,List.length_append] at hpk
   have hL0:=Rc l.1
   have hnl:l.1.length ≤ (C7 [I8,l.1]).length:=by rw [← hL0];simp only [List.length_append];omega
   have hpj:=Z8 (fun c=>C7 (N1 c)) l.2
   clear hpl hpc hpr hall hF hB hls
   generalize (s.lists.take k).flatMap Z6 = X at *
   generalize C7 [I8,l.1] = L0 at *
   repeat' ((first | (refine G9 ?_ ?_;(simp only [List.length_append,List.length_cons,List.length_nil];omega)) | (refine A3 (x:=l) hl (by omega) ?_) | (refine E3 ?_ ?_;kernel_rfl) |refine A4 ?_|refine S1 ?_|refine Z1 ?_|refine Z2 ?_|(refine And.intro ?_ ?_<;>intro h<;>try first|(exfalso;omega)|exact absurd rfl h)|refine Z3 ?_|refine Z4 ?_|intro el hel hbB|intro el hel|intro ex|refine Z5 ?_|(refine A9 ?_ ?_;exact ⟨by kernel_rfl,by decide⟩)|refine A8 ?_ ?_|exact A7|refine A6 ?_ ?_|exact A5|(refine A0 ?_ ?_ ?_;kernel_rfl;kernel_rfl)) <;> (try (conv=>whnf)))
   all_goals first
    | (exfalso;omega)
    | skip
   refine C2 (ι:=Nat) (fun j=>⟨[(1, .sl 1 (rows.map D2)),(2, .ref 0 0),(7, .str (X ++ L0 ++ (l.2.take j).flatMap fun c=>C7 (N1 c))),(8, .i k),(9, .i j)],1,[(0,some (.box (sL s)))]⟩) (fun j=>j ≤ l.2.length) (fun j=>l.2.length - j) 0 (Nat.zero_le _)
    (B0 h0 rfl ⟨rfl,rfl,congrArg (fun z=>some (AV.str z)) (by rw [List.take_zero,List.flatMap_nil,List.append_nil, ← hL0]),rfl,rfl,trivial⟩ ⟨rfl,trivial⟩ rfl rfl rfl) (fun j hjl=>?_)
   have hpjj:=hpj j
   by_cases hjt:j < l.2.length
   ·obtain ⟨c,hc⟩:∃ c,l.2[j]? = some c:=⟨_,List.getElem?_eq_getElem hjt⟩
    obtain ⟨p0,p1,p2⟩:=hcp c (List.mem_of_getElem? hc)
    have hit:=G7 c.parent (by omega) (by omega)
    have hil:=Lib.itoa_length_le c.parent (by omega) (by omega)
    have htk:=PR (f:=fun c=>C7 (N1 c)) (X ++ L0) hc
    have hcd:[99,111,100,101,32] ++ c.name ++ [32] ++ Lib.itoa c.parent ++ [10] = C7 (N1 c):=Re _ _
    rw [← hcd] at htk
    have hXl:(X ++ L0 ++ (l.2.take j).flatMap fun c=>C7 (N1 c)).length ≤ 70000:=by simp only [List.length_append];omega
    generalize Lib.itoa c.parent = ip at *
    generalize (X ++ L0 ++ (l.2.take j).flatMap fun c=>C7 (N1 c)) = Y at *
    repeat' ((first | (refine G9 ?_ ?_;(simp only [List.length_append,List.length_cons,List.length_nil];omega)) | (refine A3 (x:=l) hl (by omega) ?_) | (refine A3 (x:=c) hc (by omega) ?_) | refine B2 hit ?_ | (refine E3 ?_ ?_;kernel_rfl) |refine A4 ?_|refine S1 ?_|refine Z1 ?_|refine Z2 ?_|(refine And.intro ?_ ?_<;>intro h<;>try first|(exfalso;omega)|exact absurd rfl h)|refine Z3 ?_|refine Z4 ?_|intro el hel hbB|intro el hel|intro ex|refine Z5 ?_|(refine A9 ?_ ?_;exact ⟨by kernel_rfl,by decide⟩)|refine A8 ?_ ?_|exact A7|refine A6 ?_ ?_|exact A5|(refine A0 ?_ ?_ ?_;kernel_rfl;kernel_rfl)) <;> (try (conv=>whnf)))
    all_goals first
     | (exfalso;omega)
     | exact ⟨j + 1,by omega,by omega,B0 h0 rfl ⟨rfl,rfl,congrArg (fun z=>some (AV.str z)) htk,rfl,rfl,trivial⟩ ⟨rfl,trivial⟩ rfl rfl rfl⟩
   ·obtain rfl:j = l.2.length:=by omega
    rw [List.take_length]
    have hsn:X ++ L0 ++ (l.2.flatMap fun c=>C7 (N1 c)) = (s.lists.take (k + 1)).flatMap Z6:=by rw [hsn,hlT,List.append_assoc]
    repeat' ((first | (refine A3 (x:=l) hl (by omega) ?_) |refine A4 ?_|refine S1 ?_|refine Z1 ?_|refine Z2 ?_|(refine And.intro ?_ ?_<;>intro h<;>try first|(exfalso;omega)|exact absurd rfl h)|refine Z3 ?_|refine Z4 ?_|intro el hel hbB|intro el hel|intro ex|refine Z5 ?_|(refine A9 ?_ ?_;exact ⟨by kernel_rfl,by decide⟩)|refine A8 ?_ ?_|exact A7|refine A6 ?_ ?_|exact A5|(refine A0 ?_ ?_ ?_;kernel_rfl;kernel_rfl)) <;> (try (conv=>whnf)))
    all_goals first
     | (exfalso;omega)
     | exact ⟨k + 1,by omega,by omega,B0 h0 rfl ⟨rfl,rfl,congrArg (fun z=>some (AV.str z)) hsn,rfl,trivial⟩ ⟨rfl,trivial⟩ rfl rfl rfl⟩
  ·obtain rfl:k = s.lists.length:=by omega
   rw [List.take_length]
   clear hpl hls
   have hrb:∀ r ∈ rows,_:=fun r h=>Cv hr (hfit r h)
   have hcl:=fun c (hc:c ∈ s.cols)=>KI s hr c hc
   have hrv:=fun (i:Nat) (c:C5) (v:Int) (hc:s.cols[i]? = some c) (hh:P2 s c v = true)=>RZ s hr i c v hc hh
   generalize s.lists.flatMap Z6 = H at *
   repeat' ((first|refine A4 ?_|refine S1 ?_|refine Z1 ?_|refine Z2 ?_|(refine And.intro ?_ ?_<;>intro h<;>try first|(exfalso;omega)|exact absurd rfl h)|refine Z3 ?_|refine Z4 ?_|intro el hel hbB|intro el hel|intro ex|refine Z5 ?_|(refine A9 ?_ ?_;exact ⟨by kernel_rfl,by decide⟩)|refine A8 ?_ ?_|exact A7|refine A6 ?_ ?_|exact A5|(refine A0 ?_ ?_ ?_;kernel_rfl;kernel_rfl)) <;> (try (conv=>whnf)))
   all_goals first
    | (exfalso;omega)
    | skip
   refine C2 (ι:=Nat) (fun k=>⟨[(1, .sl 1 (rows.map D2)),(2, .ref 0 0),(7, .str (H ++ (s.cols.take k).flatMap fun c=>C7 (D9 c))),(11, .i k)],1,[(0,some (.box (sL s)))]⟩) (fun k=>k ≤ s.cols.length) (fun k=>s.cols.length - k) 0 (Nat.zero_le _)
    (B0 h0 rfl ⟨rfl,rfl,congrArg (fun z=>some (AV.str z)) (by rw [List.take_zero,List.flatMap_nil,List.append_nil]),rfl,trivial⟩ ⟨rfl,trivial⟩ rfl rfl rfl) (fun k hk=>?_)
   by_cases hlt:k < s.cols.length
   ·obtain ⟨c,hc⟩:∃ c,s.cols[k]? = some c:=⟨_,List.getElem?_eq_getElem hlt⟩
    have hcc:=hcl c (List.mem_of_getElem? hc)
    have hpk:=hpc (k + 1)
    have htk:=PR (f:=fun c=>C7 (D9 c)) H hc
    have hpk:(H ++ (s.cols.take (k + 1)).flatMap fun c=>C7 (D9 c)).length ≤ 70000:=by rw [List.length_append];omega
    rw [← htk] at hpk
    clear hrv hrb hpc hpr hall hF hB
    change H ++ ((s.cols.take k).flatMap fun c=>C7 (D9 c)) ++ (Lib.join (D9 c) [32] ++ [10]) = _ at htk
    change (H ++ ((s.cols.take k).flatMap fun c=>C7 (D9 c)) ++ (Lib.join (D9 c) [32] ++ [10])).length ≤ _ at hpk
    generalize Lib.join (D9 c) [32] = J at *
    generalize H ++ ((s.cols.take k).flatMap fun c=>C7 (D9 c)) = X at *
    simp only [List.length_append,List.length_cons,List.length_nil] at hpk
    repeat' ((first | (refine G9 ?_ ?_;(simp only [List.length_append,List.length_cons,List.length_nil];omega)) | (refine A3 (x:=c) hc (by omega) ?_) | refine B2 hcc ?_ | (refine E3 ?_ ?_;kernel_rfl) |refine A4 ?_|refine S1 ?_|refine Z1 ?_|refine Z2 ?_|(refine And.intro ?_ ?_<;>intro h<;>try first|(exfalso;omega)|exact absurd rfl h)|refine Z3 ?_|refine Z4 ?_|intro el hel hbB|intro el hel|intro ex|refine Z5 ?_|(refine A9 ?_ ?_;exact ⟨by kernel_rfl,by decide⟩)|refine A8 ?_ ?_|exact A7|refine A6 ?_ ?_|exact A5|(refine A0 ?_ ?_ ?_;kernel_rfl;kernel_rfl)) <;> (try (conv=>whnf)))
    all_goals first
     | (exfalso;omega)
     | exact ⟨k + 1,by omega,by omega,B0 h0 rfl ⟨rfl,rfl,congrArg (fun z=>some (AV.str z)) htk,rfl,trivial⟩ ⟨rfl,trivial⟩ rfl rfl rfl⟩
   ·obtain rfl:k = s.cols.length:=by omega
    rw [List.take_length]
    clear hpc hcl
    have hHl:(H ++ s.cols.flatMap fun c=>C7 (D9 c)).length ≤ 26300:=by rw [List.length_append];exact hH
    clear hH
    generalize (H ++ s.cols.flatMap fun c=>C7 (D9 c)) = H at *
    repeat' ((first|refine A4 ?_|refine S1 ?_|refine Z1 ?_|refine Z2 ?_|(refine And.intro ?_ ?_<;>intro h<;>try first|(exfalso;omega)|exact absurd rfl h)|refine Z3 ?_|refine Z4 ?_|intro el hel hbB|intro el hel|intro ex|refine Z5 ?_|(refine A9 ?_ ?_;exact ⟨by kernel_rfl,by decide⟩)|refine A8 ?_ ?_|exact A7|refine A6 ?_ ?_|exact A5|(refine A0 ?_ ?_ ?_;kernel_rfl;kernel_rfl)) <;> (try (conv=>whnf)))
    all_goals first
     | (exfalso;omega)
     | skip
    refine C2 (ι:=Nat) (fun k=>⟨[(1, .sl 1 (rows.map D2)),(2, .ref 0 0),(7, .str (H ++ (rows.take k).flatMap (W1 s))),(12, .i k)],1,[(0,some (.box (sL s)))]⟩) (fun k=>k ≤ rows.length) (fun k=>rows.length - k) 0 (Nat.zero_le _)
     (B0 h0 rfl ⟨rfl,rfl,congrArg (fun z=>some (AV.str z)) (by rw [List.take_zero,List.flatMap_nil,List.append_nil]),rfl,trivial⟩ ⟨rfl,trivial⟩ rfl rfl rfl) (fun k hk=>?_)
    have hpk:=hpr k
    by_cases hlt:k < rows.length
    ·obtain ⟨r,hrk⟩:∃ r,rows[k]? = some r:=⟨_,List.getElem?_eq_getElem hlt⟩
     have hrm:=List.mem_of_getElem? hrk
     obtain ⟨b1,b2,b3⟩:=hrb r hrm
     obtain ⟨hl,hh⟩:=Bn (hfit r hrm)
     have htk:=PR (f:=W1 s) H hrk
     change H ++ ((rows.take k).flatMap (W1 s)) ++ (Lib.join (f0 s r) [32] ++ [10]) = _ at htk
     have hXl:(H ++ (rows.take k).flatMap (W1 s)).length ≤ 67000:=by rw [List.length_append];omega
     have hjb:∀ j,(Lib.join (N3 :: ((s.cols.zip r).take j).map (N8 s)) [32]).length ≤ 9 * 22:=fun j=>by
      have h1:=W8 (N3 :: ((s.cols.zip r).take j).map (N8 s)) 21 (fun w hw=>b1 w (by
       rcases List.mem_cons.1 hw with rfl | hw
       ·simp [f0]
       ·obtain ⟨q,hq,rfl⟩:=List.mem_map.1 hw
        exact List.mem_cons_of_mem _ (List.mem_map.2 ⟨q,List.mem_of_mem_take hq,rfl⟩)))
      refine Nat.le_trans h1 (Nat.mul_le_mul_right 22 (Nat.le_trans ?_ b2))
      simp only [f0,List.length_cons,List.length_map,List.length_take]
      omega
     clear hrb hpr hall hF hB b1 b2 b3 hfit
     generalize H ++ (rows.take k).flatMap (W1 s) = X at *
     repeat' ((first | (refine G9 ?_ ?_;(simp only [List.length_append,List.length_cons,List.length_nil];omega)) |refine A4 ?_|refine S1 ?_|refine Z1 ?_|refine Z2 ?_|(refine And.intro ?_ ?_<;>intro h<;>try first|(exfalso;omega)|exact absurd rfl h)|refine Z3 ?_|refine Z4 ?_|intro el hel hbB|intro el hel|intro ex|refine Z5 ?_|(refine A9 ?_ ?_;exact ⟨by kernel_rfl,by decide⟩)|refine A8 ?_ ?_|exact A7|refine A6 ?_ ?_|exact A5|(refine A0 ?_ ?_ ?_;kernel_rfl;kernel_rfl)) <;> (try (conv=>whnf)))
     all_goals first
      | (exfalso;omega)
      | skip
     refine C2 (ι:=Nat) (fun j=>⟨[(1, .sl 1 (rows.map D2)),(2, .ref 0 0),(7, .str (X ++ Lib.join (N3 :: ((s.cols.zip r).take j).map (N8 s)) [32])),(12, .i k),(13, .i j)],1,[(0,some (.box (sL s)))]⟩) (fun j=>j ≤ r.length) (fun j=>r.length - j) 0 (Nat.zero_le _)
      (B0 h0 rfl ⟨rfl,rfl,rfl,rfl,rfl,trivial⟩ ⟨rfl,trivial⟩ rfl rfl rfl) (fun j hjl=>?_)
     by_cases hjt:j < r.length
     ·obtain ⟨v,hv⟩:∃ v,r[j]? = some v:=⟨_,List.getElem?_eq_getElem hjt⟩
      obtain ⟨c,hc⟩:∃ c,s.cols[j]? = some c:=⟨_,List.getElem?_eq_getElem (by omega)⟩
      have hz:=BS hc hv
      have hzm:=List.mem_of_getElem? hz
      have hq:=hrv j c v hc (hh _ hzm)
      have hwl:=(Dl hr (List.of_mem_zip hzm).1 (hh _ hzm)).1
      have hjk:Lib.join (N3 :: ((s.cols.zip r).take (j + 1)).map (N8 s)) [32] = Lib.join (N3 :: ((s.cols.zip r).take j).map (N8 s)) [32] ++ ([32] ++ N8 s (c,v)):=by
       rw [Q2 hz,List.map_append]
       exact Hz (ws:=N3 :: ((s.cols.zip r).take j).map (N8 s)) (by simp)
      have hjb:=hjb j
      generalize Lib.join (N3 :: ((s.cols.zip r).take j).map (N8 s)) [32] = J at *
      generalize N8 s (c,v) = w at *
      repeat' ((first | (refine G9 ?_ ?_;(simp only [List.length_append,List.length_cons,List.length_nil];omega)) | (refine A3 (x:=r) hrk (by omega) ?_) | (refine A3 (x:=v) hv (by omega) ?_) | refine B2 hq ?_ | (refine E3 ?_ ?_;kernel_rfl) |refine A4 ?_|refine S1 ?_|refine Z1 ?_|refine Z2 ?_|(refine And.intro ?_ ?_<;>intro h<;>try first|(exfalso;omega)|exact absurd rfl h)|refine Z3 ?_|refine Z4 ?_|intro el hel hbB|intro el hel|intro ex|refine Z5 ?_|(refine A9 ?_ ?_;exact ⟨by kernel_rfl,by decide⟩)|refine A8 ?_ ?_|exact A7|refine A6 ?_ ?_|exact A5|(refine A0 ?_ ?_ ?_;kernel_rfl;kernel_rfl)) <;> (try (conv=>whnf)))
      all_goals first
       | (exfalso;omega)
       | exact ⟨j + 1,by omega,by omega,B0 h0 rfl ⟨rfl,rfl,congrArg (fun z=>some (AV.str z)) (by rw [hjk];exact List.append_assoc _ _ _),rfl,rfl,trivial⟩ ⟨rfl,trivial⟩ rfl rfl rfl⟩
     ·obtain rfl:j = r.length:=by omega
      have hjb:=hjb r.length
      rw [List.take_of_length_le (show (s.cols.zip r).length ≤ r.length by rw [List.length_zip];omega)] at hjb ⊢
      rw [← List.append_assoc] at htk
      unfold f0 at htk
      generalize Lib.join (N3 :: (s.cols.zip r).map (N8 s)) [32] = J at *
      repeat' ((first | (refine G9 ?_ ?_;(simp only [List.length_append,List.length_cons,List.length_nil];omega)) | (refine A3 (x:=r) hrk (by omega) ?_) |refine A4 ?_|refine S1 ?_|refine Z1 ?_|refine Z2 ?_|(refine And.intro ?_ ?_<;>intro h<;>try first|(exfalso;omega)|exact absurd rfl h)|refine Z3 ?_|refine Z4 ?_|intro el hel hbB|intro el hel|intro ex|refine Z5 ?_|(refine A9 ?_ ?_;exact ⟨by kernel_rfl,by decide⟩)|refine A8 ?_ ?_|exact A7|refine A6 ?_ ?_|exact A5|(refine A0 ?_ ?_ ?_;kernel_rfl;kernel_rfl)) <;> (try (conv=>whnf)))
      all_goals first
       | (exfalso;omega)
       | exact ⟨k + 1,by omega,by omega,B0 h0 rfl ⟨rfl,rfl,congrArg (fun z=>some (AV.str z)) htk,rfl,trivial⟩ ⟨rfl,trivial⟩ rfl rfl rfl⟩
    ·obtain rfl:k = rows.length:=by omega
     rw [List.take_length, ← hB]
     have hBl:(N4 s rows).length ≤ 67000:=by rw [hB,List.length_append];omega
     rw [← hB] at hF
     have hsm:=Ev (N4 s rows) (by omega)
     obtain ⟨b1,b2⟩:=Iz (N4 s rows)
     have hit:=G7 (R7 (N4 s rows)) (by omega) (by omega)
     have hil:=Lib.itoa_length_le (R7 (N4 s rows)) (by omega) (by omega)
     clear hrb hpr hall hB hpk hfit hrv
     unfold r8 at hF
     rw [← UE] at hF
     generalize R7 (N4 s rows) = m at *
     generalize Lib.itoa m = im at *
     generalize N4 s rows = B at *
     have hFl:FL.length ≤ 70000:=by rw [hF];simp only [List.length_append,List.length_cons,List.length_nil];omega
     rw [hF] at hFl ⊢
     repeat' ((first | (refine G9 ?_ ?_;(simp only [List.length_append,List.length_cons,List.length_nil];omega)) | refine B2 hsm ?_ | refine B2 hit ?_ | (refine E3 ?_ ?_;kernel_rfl) |refine A4 ?_|refine S1 ?_|refine Z1 ?_|refine Z2 ?_|(refine And.intro ?_ ?_<;>intro h<;>try first|(exfalso;omega)|exact absurd rfl h)|refine Z3 ?_|refine Z4 ?_|intro el hel hbB|intro el hel|intro ex|refine Z5 ?_|(refine A9 ?_ ?_;exact ⟨by kernel_rfl,by decide⟩)|refine A8 ?_ ?_|exact A7|refine A6 ?_ ?_|exact A5|(refine A0 ?_ ?_ ?_;kernel_rfl;kernel_rfl)) <;> (try (conv=>whnf)))
     all_goals first
      | (exfalso;omega)
      | (have h5:(20000:Int) < ((B ++ ([115,117,109,32] ++ im ++ [10])).length:Nat):=h;rw [if_pos (by omega)];exact F9 (rs:=[.tmp 4, .tmp 5]) (vs:=[_,_]) rfl ⟨⟨_,rfl, .refl _⟩,⟨_,rfl, .refl _⟩,trivial⟩ rfl)
      | (have h5:¬ (20000:Int) < ((B ++ ([115,117,109,32] ++ im ++ [10])).length:Nat):=h;rw [if_neg (by omega)];exact F9 (rs:=[.tmp 4, .tmp 5]) (vs:=[_,_]) rfl ⟨⟨_,rfl, .refl _⟩,⟨_,rfl, .refl _⟩,trivial⟩ rfl)
 ·rw [if_pos hc0]
  generalize Bo s rows = e at *
  refine F3 Tryz.func11 127 fun hrd E h0=>?_
  clear hrd
  repeat' ((first | refine B2 hck ?_ |refine A4 ?_|refine S1 ?_|refine Z1 ?_|refine Z2 ?_|(refine And.intro ?_ ?_<;>intro h<;>try first|(exfalso;omega)|exact absurd rfl h)|refine Z3 ?_|refine Z4 ?_|intro el hel hbB|intro el hel|intro ex|refine Z5 ?_|(refine A9 ?_ ?_;exact ⟨by kernel_rfl,by decide⟩)|refine A8 ?_ ?_|exact A7|refine A6 ?_ ?_|exact A5|(refine A0 ?_ ?_ ?_;kernel_rfl;kernel_rfl)) <;> (try (conv=>whnf)))
  all_goals first
   | (exfalso;omega)
   | exact F9 (rs:=[.tmp 4, .tmp 5]) (vs:=[_,_]) rfl ⟨⟨_,rfl, .refl _⟩,⟨_,rfl, .refl _⟩,trivial⟩ rfl
end Go.Proofs.YtiphlhoclaogjabGreatDoor
