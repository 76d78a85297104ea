/- Chapter 3: the lines of code lists and columns. -/
import Derived.Test.YtiphlhoclaogjabGreatDoorQF7
set_option linter.unusedVariables false
set_option linter.unnecessarySimpa false
set_option linter.unusedSimpArgs false
namespace Go.Proofs.YtiphlhoclaogjabGreatDoor
open Go Go.Av
attribute [local irreducible] D1 B5 D5 D3 DQ D7 E0 St.le B3 B6
set_option maxRecDepth 100000
abbrev bU (i j:Nat) (t:List UInt8):Hp:=[(i,some (.bx bB [.ref i 0, .row j 0 t.length])),(j,some (.row eB 1 0 (G9 t)))]
theorem W3 {α:Type} (f:α → List UInt8) (l:List α) (k:Nat) {x:α} (h:l[k]? = some x):(l.take (k + 1)).flatMap f = (l.take k).flatMap f ++ f x:=by
 rw [R9 h,List.flatMap_append];simp
theorem Z6 {α:Type} (f:α → List UInt8) (l:List α) (k:Nat):((l.take k).flatMap f).length ≤ (l.flatMap f).length:=by
 conv=>rhs;rw [← List.take_append_drop k l]
 rw [List.flatMap_append,List.length_append];omega
theorem Hz {s:B8} (hr:F8 s = 0) {k:Nat} {c:C1} (hc:s.cols[k]? = some c):(c.kind = 1 ∧ k = 0) ∨ (c.kind = 2 ∧ k ≠ 0) ∨ (c.kind = 3 ∧ k ≠ 0):=by
 obtain ⟨q1,q2,q3,q4,q5⟩:=F7 hr
 obtain ⟨_,_,h3,_⟩:=BL (q4 k _ hc)
 have h0:k = 0 → c.kind = 1:=by
  rintro rfl
  rw [List.head?_eq_getElem?,hc] at q5
  exact Option.some.inj q5
 rcases Fu h3 with h | h | h
 ·exact .inl h
 ·exact .inr (.inl ⟨h,fun h0'=>by have:=h0 h0';omega⟩)
 ·exact .inr (.inr ⟨h,fun h0'=>by have:=h0 h0';omega⟩)
theorem FT {s:B8} (hr:F8 s = 0):s.cols ≠ []:=by
 have h:=(F7 hr).2.2.2.2
 intro e
 rw [e] at h
 cases h
theorem MW {a b:List UInt8} (h:b ≠ []):a ++ b ≠ []:=by
 intro e;exact h (List.append_eq_nil_iff.1 e).2
set_option maxHeartbeats 16000000 in
theorem Rp (s:B8) (hr:F8 s = 0):B3 Tryz.prog 28 [sA s] (.str (l9 s)):=by
 have hbd:=JA hr
 obtain ⟨q1,q2,q3,q4,q5⟩:=F7 hr
 have hls:∀ l ∈ s.lists,_:=fun l hl=>Iz hr hl
 refine F3 Tryz.func28 99 fun hrd E h0=>?_
 clear hrd
 repeat' ((first | refine Fw (T:=63) rfl ?_ |refine A1 ?_|refine S1 ?_|refine Z1 ?_|refine Z2 ?_|(refine And.intro ?_ ?_<;>intro h<;>try first|(exfalso;omega)|exact absurd rfl h)|refine Z3 ?_|refine Z4 ?_|intro el hel hbB|intro el hel|intro ex|refine Z5 ?_|(refine A6 ?_ ?_;exact ⟨by kernel_rfl,by decide⟩)|refine A5 ?_ ?_|exact A4|refine A3 ?_ ?_|exact A2|(refine A0 ?_ ?_ ?_;kernel_rfl;kernel_rfl)) <;> (try (conv=>whnf)))
 refine C5 (ι:=Nat × Bool) (fun x=>match x.2 with
  | true=>⟨[(1, .ref 0 0),(3, .ref 1 0),(14, .sl 2 (s.lists.map F2)),(15, .i s.lists.length),(16, .i x.1)],2,[(0,some (.box (sL s))),(1,some Pe)]⟩
  | false=>⟨[(1, .ref 0 0),(3, .ref 1 0),(14, .sl 2 (s.lists.map F2)),(15, .i s.lists.length),(16, .i x.1)],4,(0,some (.box (sL s))) :: bU 1 3 ((s.lists.take x.1).flatMap S0)⟩)
  (fun x=>x.1 ≤ s.lists.length ∧ (x.2 = true → x.1 = 0) ∧ (x.2 = false → 0 < x.1)) (fun x=>s.lists.length - x.1) (0,true) ⟨Nat.zero_le _,fun _=>rfl,fun h=>by cases h⟩ (A8 h0 rfl ⟨rfl,rfl,rfl,rfl,rfl,trivial⟩ ⟨rfl,rfl,trivial⟩ rfl rfl rfl) (fun x hI=>?_)
 obtain ⟨k,f⟩:=x
 obtain ⟨hk,hf1,hf2⟩:=hI
 dsimp only at hk hf1 hf2
 by_cases hlt:k < s.lists.length
 ·obtain ⟨l,hl⟩:∃ l,s.lists[k]? = some l:=⟨_,List.getElem?_eq_getElem hlt⟩
  have hch:=q3 l (List.mem_of_getElem? hl)
  have hl4:=hls l (List.mem_of_getElem? hl)
  have hc60:=(K9 hch).2.2
  have hpart:=Z6 S0 s.lists k
  have hpl:((s.lists.take k).flatMap S0).length ≤ 26300:=by
   have:(s.lists.flatMap S0).length ≤ (l9 s).length:=by unfold l9;rw [List.length_append];omega
   omega
  have hsn:=W3 S0 s.lists k hl
  have hnm:l.1.length ≤ 16:=by
   have:D0 l.1 = true:=by
    cases hb:D0 l.1 with
    | true=>rfl
    | false=>rw [← AM (cs:=l.2) hb] at hch;cases hch
   exact Ar this
  have hj:=W9 [G6,l.1] 21 (fun w hw=>by
   simp only [List.mem_cons,List.not_mem_nil,or_false] at hw
   rcases hw with rfl | rfl
   ·decide
   ·omega)
  simp only [List.length_cons,List.length_nil] at hj
  have hline:=k0 [G6,l.1] (by simp) (by omega)
  have hcw:∀ c ∈ l.2,_:=fun c hc=>Iy hch hc
  have hcp:∀ c ∈ l.2,_:=fun c hc=>Cz hch hc
  have hlT:S0 l = B7 [G6,l.1] ++ l.2.flatMap fun c=>B7 (J7 c):=rfl
  have h0T:(B7 [G6,l.1]).length ≤ 100:=by unfold B7;rw [List.length_append];simp only [List.length_cons,List.length_nil];omega
  have h0n:=d6 [G6,l.1]
  generalize B7 [G6,l.1] = L0 at *
  generalize hTk:(s.lists.take k).flatMap S0 = T at *
  have hw1:=GV L0 (by omega)
  have hw2:=d5 T L0 (by omega)
  have hpc:=Z6 (fun c=>B7 (J7 c)) l.2
  have hT0:f = true → T = []:=fun h=>by rw [← hTk,hf1 h];rfl
  clear hls hpart hbd hTk
  cases f with
  | true =>
    have hk0:=hf1 rfl
    have hT:=hT0 rfl
    subst hk0 hT
    rw [List.nil_append] at hsn
    dsimp only
    repeat' ((first | (refine A7 (x:=l) hl (by omega) ?_) | refine A9 hline ?_ |refine A1 ?_|refine S1 ?_|refine Z1 ?_|refine Z2 ?_|(refine And.intro ?_ ?_<;>intro h<;>try first|(exfalso;omega)|exact absurd rfl h)|refine Z3 ?_|refine Z4 ?_|intro el hel hbB|intro el hel|intro ex|refine Z5 ?_|(refine A6 ?_ ?_;exact ⟨by kernel_rfl,by decide⟩)|refine A5 ?_ ?_|exact A4|refine A3 ?_ ?_|exact A2|(refine A0 ?_ ?_ ?_;kernel_rfl;kernel_rfl) | refine nc [1] [0] hw1 rfl rfl rfl ⟨rfl,trivial⟩ ?_) <;> (try (conv=>whnf)))
    refine C5 (ι:=Nat) (fun j=>⟨[(1, .ref 0 0),(3, .ref 1 0),(14, .sl 2 (s.lists.map F2)),(15, .i s.lists.length),(16, .i (0:Nat)),(26, .sl 2 (l.2.map cA)),(27, .i l.2.length),(28, .i j)],4,(0,some (.box (sL s))) :: bU 1 3 (L0 ++ ((l.2.take j).flatMap fun c=>B7 (J7 c)))⟩) (fun j=>j ≤ l.2.length) (fun j=>l.2.length - j) 0 (Nat.zero_le _)
     (A8 h0 rfl ⟨rfl,rfl,rfl,rfl,rfl,rfl,rfl,rfl,trivial⟩ ⟨rfl,congrArg (fun z:List UInt8=>C0.bx bB [.ref 1 0, .row 3 0 z.length]) (show L0 ++ _ = L0 from List.append_nil _),⟨_,congrArg (fun z:List UInt8=>C0.row eB 1 _ (G9 z)) (show L0 ++ _ = L0 from List.append_nil _)⟩,trivial⟩ rfl rfl rfl) (fun j hjl=>?_)
    by_cases hjt:j < l.2.length
    ·obtain ⟨c,hc⟩:∃ c,l.2[j]? = some c:=⟨_,List.getElem?_eq_getElem hjt⟩
     have hcm:=List.mem_of_getElem? hc
     obtain ⟨_,p1,p2⟩:=hcp c hcm
     have hit:=G5 c.parent (by omega) (by omega)
     have hj3:=W9 (J7 c) 21 (hcw c hcm)
     have hn3:(J7 c).length = 3:=rfl
     have hln:=k0 (J7 c) (by omega) (by omega)
     have hlb:(B7 (J7 c)).length ≤ 67:=by unfold B7;rw [List.length_append];simp only [List.length_cons,List.length_nil];omega
     have hsj:=W3 (fun c=>B7 (J7 c)) l.2 j hc
     have hpj:=hpc j
     have hcT:(l.2.flatMap fun c=>B7 (J7 c)).length ≤ 4100:=by rw [hlT,List.length_append] at hl4;omega
     have hsj:(l.2.take (j + 1)).flatMap (fun c=>B7 (J7 c)) = (l.2.take j).flatMap (fun c=>B7 (J7 c)) ++ B7 [X0,c.name,Lib.itoa c.parent]:=hsj
     unfold J7 at hln hlb
     have hw3:=d5 (L0 ++ ((l.2.take j).flatMap fun c=>B7 (J7 c))) (B7 [X0,c.name,Lib.itoa c.parent]) (by simp only [List.length_append] at hpl ⊢;omega)
     have hX:L0 ++ ((l.2.take j).flatMap fun c=>B7 (J7 c)) ++ B7 [X0,c.name,Lib.itoa c.parent] = L0 ++ ((l.2.take (j + 1)).flatMap fun c=>B7 (J7 c)):=by rw [hsj,List.append_assoc]
     generalize Lib.itoa c.parent = ip at *
     generalize B7 [X0,c.name,ip] = N at *
     generalize L0 ++ ((l.2.take j).flatMap fun c=>B7 (J7 c)) = X at *
     repeat' ((first | (refine G1 9 ?_;refine K1 (id:=9) (σ':=⟨[(1, .ref 0 0),(3, .ref 1 0),(14, .sl 2 (s.lists.map F2)),(15, .i s.lists.length),(16, .i (0:Nat)),(26, .sl 2 (l.2.map cA)),(27, .i l.2.length),(28, .i j),(7, .iptr (cA c))],4,(0,some (.box (sL s))) :: bU 1 3 (X)⟩) (A8 h0 rfl ⟨rfl,rfl,rfl,rfl,rfl,rfl,rfl,rfl,rfl,trivial⟩ ⟨rfl,rfl,⟨_,rfl⟩,trivial⟩ rfl rfl rfl) ?_;refine I3 (id:=9) ⟨[(1, .ref 0 0),(3, .ref 1 0),(14, .sl 2 (s.lists.map F2)),(15, .i s.lists.length),(16, .i (0:Nat)),(26, .sl 2 (l.2.map cA)),(27, .i l.2.length),(28, .i j)],4,(0,some (.box (sL s))) :: bU 1 3 (X ++ N)⟩ ?_ ?_) | (refine A7 (x:=c) hc (by omega) ?_) | refine A9 hit ?_ | refine A9 hln ?_ |refine A1 ?_|refine S1 ?_|refine Z1 ?_|refine Z2 ?_|(refine And.intro ?_ ?_<;>intro h<;>try first|(exfalso;omega)|exact absurd rfl h)|refine Z3 ?_|refine Z4 ?_|intro el hel hbB|intro el hel|intro ex|refine Z5 ?_|(refine A6 ?_ ?_;exact ⟨by kernel_rfl,by decide⟩)|refine A5 ?_ ?_|exact A4|refine A3 ?_ ?_|exact A2|(refine A0 ?_ ?_ ?_;kernel_rfl;kernel_rfl) | refine nc [1,3] [0,0] hw3 rfl rfl rfl ⟨rfl,rfl,trivial⟩ ?_) <;> (try (conv=>whnf)))
     all_goals first
      | (exfalso;omega)
      | exact A8 h0 rfl ⟨rfl,rfl,rfl,rfl,rfl,rfl,rfl,rfl,trivial⟩ ⟨rfl,rfl,⟨_,rfl⟩,trivial⟩ rfl rfl rfl
      | exact ⟨j + 1,by omega,by omega,A8 h0 rfl ⟨rfl,rfl,rfl,rfl,rfl,rfl,rfl,rfl,trivial⟩ ⟨rfl,congrArg (fun z:List UInt8=>C0.bx bB [.ref 1 0, .row 3 0 z.length]) hX.symm,⟨_,congrArg (fun z:List UInt8=>C0.row eB 1 _ (G9 z)) hX.symm⟩,trivial⟩ rfl rfl rfl⟩
    ·obtain rfl:j = l.2.length:=by omega
     rw [List.take_length]
     have hX:L0 ++ (l.2.flatMap fun c=>B7 (J7 c)) = (s.lists.take ((0:Nat) + 1)).flatMap S0:=by rw [hsn,hlT] <;> simp only [List.append_assoc]
     repeat' ((first|refine A1 ?_|refine S1 ?_|refine Z1 ?_|refine Z2 ?_|(refine And.intro ?_ ?_<;>intro h<;>try first|(exfalso;omega)|exact absurd rfl h)|refine Z3 ?_|refine Z4 ?_|intro el hel hbB|intro el hel|intro ex|refine Z5 ?_|(refine A6 ?_ ?_;exact ⟨by kernel_rfl,by decide⟩)|refine A5 ?_ ?_|exact A4|refine A3 ?_ ?_|exact A2|(refine A0 ?_ ?_ ?_;kernel_rfl;kernel_rfl)) <;> (try (conv=>whnf)))
     all_goals first
      | (exfalso;omega)
      | exact ⟨((0:Nat) + 1,false),⟨by dsimp only;omega,fun h=>(by cases h),fun _=>Nat.succ_pos _⟩,by dsimp only;omega,A8 h0 rfl ⟨rfl,rfl,rfl,rfl,rfl,trivial⟩ ⟨rfl,congrArg (fun z:List UInt8=>C0.bx bB [.ref 1 0, .row 3 0 z.length]) hX.symm,⟨_,congrArg (fun z:List UInt8=>C0.row eB 1 _ (G9 z)) hX.symm⟩,trivial⟩ rfl rfl rfl⟩
  | false =>
    dsimp only
    repeat' ((first | (refine A7 (x:=l) hl (by omega) ?_) | refine A9 hline ?_ |refine A1 ?_|refine S1 ?_|refine Z1 ?_|refine Z2 ?_|(refine And.intro ?_ ?_<;>intro h<;>try first|(exfalso;omega)|exact absurd rfl h)|refine Z3 ?_|refine Z4 ?_|intro el hel hbB|intro el hel|intro ex|refine Z5 ?_|(refine A6 ?_ ?_;exact ⟨by kernel_rfl,by decide⟩)|refine A5 ?_ ?_|exact A4|refine A3 ?_ ?_|exact A2|(refine A0 ?_ ?_ ?_;kernel_rfl;kernel_rfl) | refine nc [1,3] [0,0] hw2 rfl rfl rfl ⟨rfl,rfl,trivial⟩ ?_) <;> (try (conv=>whnf)))
    refine C5 (ι:=Nat) (fun j=>⟨[(1, .ref 0 0),(3, .ref 1 0),(14, .sl 2 (s.lists.map F2)),(15, .i s.lists.length),(16, .i k),(26, .sl 2 (l.2.map cA)),(27, .i l.2.length),(28, .i j)],4,(0,some (.box (sL s))) :: bU 1 3 ((T ++ L0) ++ ((l.2.take j).flatMap fun c=>B7 (J7 c)))⟩) (fun j=>j ≤ l.2.length) (fun j=>l.2.length - j) 0 (Nat.zero_le _)
     (A8 h0 rfl ⟨rfl,rfl,rfl,rfl,rfl,rfl,rfl,rfl,trivial⟩ ⟨rfl,congrArg (fun z:List UInt8=>C0.bx bB [.ref 1 0, .row 3 0 z.length]) (show (T ++ L0) ++ _ = (T ++ L0) from List.append_nil _),⟨_,congrArg (fun z:List UInt8=>C0.row eB 1 _ (G9 z)) (show (T ++ L0) ++ _ = (T ++ L0) from List.append_nil _)⟩,trivial⟩ rfl rfl rfl) (fun j hjl=>?_)
    by_cases hjt:j < l.2.length
    ·obtain ⟨c,hc⟩:∃ c,l.2[j]? = some c:=⟨_,List.getElem?_eq_getElem hjt⟩
     have hcm:=List.mem_of_getElem? hc
     obtain ⟨_,p1,p2⟩:=hcp c hcm
     have hit:=G5 c.parent (by omega) (by omega)
     have hj3:=W9 (J7 c) 21 (hcw c hcm)
     have hn3:(J7 c).length = 3:=rfl
     have hln:=k0 (J7 c) (by omega) (by omega)
     have hlb:(B7 (J7 c)).length ≤ 67:=by unfold B7;rw [List.length_append];simp only [List.length_cons,List.length_nil];omega
     have hsj:=W3 (fun c=>B7 (J7 c)) l.2 j hc
     have hpj:=hpc j
     have hcT:(l.2.flatMap fun c=>B7 (J7 c)).length ≤ 4100:=by rw [hlT,List.length_append] at hl4;omega
     have hsj:(l.2.take (j + 1)).flatMap (fun c=>B7 (J7 c)) = (l.2.take j).flatMap (fun c=>B7 (J7 c)) ++ B7 [X0,c.name,Lib.itoa c.parent]:=hsj
     unfold J7 at hln hlb
     have hw3:=d5 ((T ++ L0) ++ ((l.2.take j).flatMap fun c=>B7 (J7 c))) (B7 [X0,c.name,Lib.itoa c.parent]) (by simp only [List.length_append] at hpl ⊢;omega)
     have hX:(T ++ L0) ++ ((l.2.take j).flatMap fun c=>B7 (J7 c)) ++ B7 [X0,c.name,Lib.itoa c.parent] = (T ++ L0) ++ ((l.2.take (j + 1)).flatMap fun c=>B7 (J7 c)):=by rw [hsj,List.append_assoc]
     generalize Lib.itoa c.parent = ip at *
     generalize B7 [X0,c.name,ip] = N at *
     generalize (T ++ L0) ++ ((l.2.take j).flatMap fun c=>B7 (J7 c)) = X at *
     repeat' ((first | (refine G1 9 ?_;refine K1 (id:=9) (σ':=⟨[(1, .ref 0 0),(3, .ref 1 0),(14, .sl 2 (s.lists.map F2)),(15, .i s.lists.length),(16, .i k),(26, .sl 2 (l.2.map cA)),(27, .i l.2.length),(28, .i j),(7, .iptr (cA c))],4,(0,some (.box (sL s))) :: bU 1 3 (X)⟩) (A8 h0 rfl ⟨rfl,rfl,rfl,rfl,rfl,rfl,rfl,rfl,rfl,trivial⟩ ⟨rfl,rfl,⟨_,rfl⟩,trivial⟩ rfl rfl rfl) ?_;refine I3 (id:=9) ⟨[(1, .ref 0 0),(3, .ref 1 0),(14, .sl 2 (s.lists.map F2)),(15, .i s.lists.length),(16, .i k),(26, .sl 2 (l.2.map cA)),(27, .i l.2.length),(28, .i j)],4,(0,some (.box (sL s))) :: bU 1 3 (X ++ N)⟩ ?_ ?_) | (refine A7 (x:=c) hc (by omega) ?_) | refine A9 hit ?_ | refine A9 hln ?_ |refine A1 ?_|refine S1 ?_|refine Z1 ?_|refine Z2 ?_|(refine And.intro ?_ ?_<;>intro h<;>try first|(exfalso;omega)|exact absurd rfl h)|refine Z3 ?_|refine Z4 ?_|intro el hel hbB|intro el hel|intro ex|refine Z5 ?_|(refine A6 ?_ ?_;exact ⟨by kernel_rfl,by decide⟩)|refine A5 ?_ ?_|exact A4|refine A3 ?_ ?_|exact A2|(refine A0 ?_ ?_ ?_;kernel_rfl;kernel_rfl) | refine nc [1,3] [0,0] hw3 rfl rfl rfl ⟨rfl,rfl,trivial⟩ ?_) <;> (try (conv=>whnf)))
     all_goals first
      | (exfalso;omega)
      | exact A8 h0 rfl ⟨rfl,rfl,rfl,rfl,rfl,rfl,rfl,rfl,trivial⟩ ⟨rfl,rfl,⟨_,rfl⟩,trivial⟩ rfl rfl rfl
      | exact ⟨j + 1,by omega,by omega,A8 h0 rfl ⟨rfl,rfl,rfl,rfl,rfl,rfl,rfl,rfl,trivial⟩ ⟨rfl,congrArg (fun z:List UInt8=>C0.bx bB [.ref 1 0, .row 3 0 z.length]) hX.symm,⟨_,congrArg (fun z:List UInt8=>C0.row eB 1 _ (G9 z)) hX.symm⟩,trivial⟩ rfl rfl rfl⟩
    ·obtain rfl:j = l.2.length:=by omega
     rw [List.take_length]
     have hX:(T ++ L0) ++ (l.2.flatMap fun c=>B7 (J7 c)) = (s.lists.take (k + 1)).flatMap S0:=by rw [hsn,hlT] <;> simp only [List.append_assoc]
     repeat' ((first|refine A1 ?_|refine S1 ?_|refine Z1 ?_|refine Z2 ?_|(refine And.intro ?_ ?_<;>intro h<;>try first|(exfalso;omega)|exact absurd rfl h)|refine Z3 ?_|refine Z4 ?_|intro el hel hbB|intro el hel|intro ex|refine Z5 ?_|(refine A6 ?_ ?_;exact ⟨by kernel_rfl,by decide⟩)|refine A5 ?_ ?_|exact A4|refine A3 ?_ ?_|exact A2|(refine A0 ?_ ?_ ?_;kernel_rfl;kernel_rfl)) <;> (try (conv=>whnf)))
     all_goals first
      | (exfalso;omega)
      | exact ⟨(k + 1,false),⟨by dsimp only;omega,fun h=>(by cases h),fun _=>Nat.succ_pos _⟩,by dsimp only;omega,A8 h0 rfl ⟨rfl,rfl,rfl,rfl,rfl,trivial⟩ ⟨rfl,congrArg (fun z:List UInt8=>C0.bx bB [.ref 1 0, .row 3 0 z.length]) hX.symm,⟨_,congrArg (fun z:List UInt8=>C0.row eB 1 _ (G9 z)) hX.symm⟩,trivial⟩ rfl rfl rfl⟩
 ·obtain rfl:k = s.lists.length:=by omega
  have hcol:∀ c ∈ s.cols,_:=fun c hc=>GW hr hc
  have hcb:∀ c ∈ s.cols,_:=fun c hc=>y9 hr hc
  have hknd:∀ (k:Nat) (c:C1),s.cols[k]? = some c → (c.kind = 1 ∧ k = 0) ∨ (c.kind = 2 ∧ k ≠ 0) ∨ (c.kind = 3 ∧ k ≠ 0):=fun k c hc=>Hz hr hc
  have hne:=FT hr
  have hH:f = true → s.lists.flatMap S0 = []:=fun h=>by rw [List.eq_nil_of_length_eq_zero (hf1 h)];rfl
  have hpc:=Z6 (fun c=>B7 (C3 c)) s.cols
  have hT:l9 s = s.lists.flatMap S0 ++ s.cols.flatMap fun c=>B7 (C3 c):=rfl
  have hTl:=hbd
  rw [hT,List.length_append] at hTl
  rw [hT]
  rw [List.take_length]
  clear hls hf1 hf2 q3 q4 q5 hbd hT hk
  generalize s.lists.flatMap S0 = H at *
  cases f with
  | true =>
    have hH:=hH rfl
    subst hH
    dsimp only
    repeat' ((first|refine A1 ?_|refine S1 ?_|refine Z1 ?_|refine Z2 ?_|(refine And.intro ?_ ?_<;>intro h<;>try first|(exfalso;omega)|exact absurd rfl h)|refine Z3 ?_|refine Z4 ?_|intro el hel hbB|intro el hel|intro ex|refine Z5 ?_|(refine A6 ?_ ?_;exact ⟨by kernel_rfl,by decide⟩)|refine A5 ?_ ?_|exact A4|refine A3 ?_ ?_|exact A2|(refine A0 ?_ ?_ ?_;kernel_rfl;kernel_rfl)) <;> (try (conv=>whnf)))
    refine C5 (ι:=Nat × Bool) (fun x=>match x.2 with
     | true=>⟨[(1, .ref 0 0),(3, .ref 1 0),(43, .sl 7 (s.cols.map C2)),(44, .i s.cols.length),(45, .i x.1)],2,[(0,some (.box (sL s))),(1,some Pe)]⟩
     | false=>⟨[(1, .ref 0 0),(3, .ref 1 0),(43, .sl 7 (s.cols.map C2)),(44, .i s.cols.length),(45, .i x.1)],4,(0,some (.box (sL s))) :: bU 1 3 ([] ++ ((s.cols.take x.1).flatMap fun c=>B7 (C3 c)))⟩)
     (fun x=>x.1 ≤ s.cols.length ∧ (x.2 = true → x.1 = 0) ∧ (x.2 = false → 0 < x.1)) (fun x=>s.cols.length - x.1) (0,true) ⟨Nat.zero_le _,fun _=>rfl,fun h=>by cases h⟩ (A8 h0 rfl ⟨rfl,rfl,rfl,rfl,rfl,trivial⟩ ⟨rfl,rfl,trivial⟩ rfl rfl rfl) (fun x hI=>?_)
    obtain ⟨k,f⟩:=x
    obtain ⟨hk,hf1,hf2⟩:=hI
    dsimp only at hk hf1 hf2
    by_cases hlt:k < s.cols.length
    ·obtain ⟨c,hc⟩:∃ c,s.cols[k]? = some c:=⟨_,List.getElem?_eq_getElem hlt⟩
     have hcm:=List.mem_of_getElem? hc
     obtain ⟨w1,w2⟩:=hcol c hcm
     obtain ⟨b1,b2,b3⟩:=hcb c hcm
     have hkc:=hknd k c hc
     have hj:=W9 (C3 c) 21 w1
     have hj2:=Nat.mul_le_mul_right 22 w2
     have hline:=k0 (C3 c) (by omega) (by omega)
     have hN:=U5 w1
     have hNn:=d6 (C3 c)
     have hsn:=W3 (fun c=>B7 (C3 c)) s.cols k hc
     have hpk:=hpc k
     have hsn:[] ++ ((s.cols.take (k + 1)).flatMap fun c=>B7 (C3 c)) = [] ++ ((s.cols.take k).flatMap fun c=>B7 (C3 c)) ++ B7 (C3 c):=by rw [List.append_assoc];exact congrArg ([] ++ ·) hsn
     have hNl:(B7 (C3 c)).length ≤ 199:=by omega
     clear hcol hcb hknd hj hj2 hN w1 w2
     have hXl:([] ++ ((s.cols.take k).flatMap fun c=>B7 (C3 c))).length ≤ 26300:=by simp only [List.length_append,List.length_nil] at hTl ⊢;omega
     cases f with
     | true =>
       have hk0:=hf1 rfl
       subst hk0
       have hk1:c.kind = 1:=by omega
       clear hkc hpk
       dsimp only
       rw [show [] ++ (((s.cols.take 0).flatMap fun c=>B7 (C3 c)):List UInt8) = [] from rfl,List.nil_append] at hsn
       have hcw:C3 c = [W2,c.name]:=by unfold C3;rw [if_pos hk1]
       rw [hcw] at hline hsn hNl hNn
       clear hcw
       generalize B7 [W2,c.name] = N at *
       rw [List.nil_append] at hsn
       have hw:=GV N (by omega)
       repeat' ((first | (refine A7 (x:=c) hc (by omega) ?_) | refine A9 hline ?_ |refine A1 ?_|refine S1 ?_|refine Z1 ?_|refine Z2 ?_|(refine And.intro ?_ ?_<;>intro h<;>try first|(exfalso;omega)|exact absurd rfl h)|refine Z3 ?_|refine Z4 ?_|intro el hel hbB|intro el hel|intro ex|refine Z5 ?_|(refine A6 ?_ ?_;exact ⟨by kernel_rfl,by decide⟩)|refine A5 ?_ ?_|exact A4|refine A3 ?_ ?_|exact A2|(refine A0 ?_ ?_ ?_;kernel_rfl;kernel_rfl) | refine nc [1] [0] hw rfl rfl rfl ⟨rfl,trivial⟩ ?_) <;> (try (conv=>whnf)))
       all_goals first
        | (exfalso;omega)
        | exact A8 h0 rfl ⟨rfl,rfl,rfl,rfl,rfl,trivial⟩ ⟨rfl,rfl,⟨_,rfl⟩,trivial⟩ rfl rfl rfl
        | exact ⟨((0:Nat) + 1,false),⟨by dsimp only;omega,fun h=>(by cases h),fun _=>Nat.succ_pos _⟩,by first | omega | (dsimp only;omega),A8 h0 rfl ⟨rfl,rfl,rfl,rfl,rfl,trivial⟩ ⟨rfl,congrArg (fun z:List UInt8=>C0.bx bB [.ref 1 0, .row 3 0 z.length]) hsn,⟨_,congrArg (fun z:List UInt8=>C0.row eB 1 _ (G9 z)) hsn⟩,trivial⟩ rfl rfl rfl⟩
     | false =>
       dsimp only
       generalize [] ++ ((s.cols.take k).flatMap fun c=>B7 (C3 c)) = X at *
       rcases hkc with ⟨hk1,_⟩ | ⟨hk2,_⟩ | ⟨hk3,_⟩
       ·have hcw:C3 c = [W2,c.name]:=by unfold C3;rw [if_pos hk1]
        rw [hcw] at hline hsn hNl hNn
        clear hcw
        generalize B7 [W2,c.name] = N at *
        have hw:=d5 X N (by omega)
        repeat' ((first | (refine A7 (x:=c) hc (by omega) ?_) | refine A9 hline ?_ |refine A1 ?_|refine S1 ?_|refine Z1 ?_|refine Z2 ?_|(refine And.intro ?_ ?_<;>intro h<;>try first|(exfalso;omega)|exact absurd rfl h)|refine Z3 ?_|refine Z4 ?_|intro el hel hbB|intro el hel|intro ex|refine Z5 ?_|(refine A6 ?_ ?_;exact ⟨by kernel_rfl,by decide⟩)|refine A5 ?_ ?_|exact A4|refine A3 ?_ ?_|exact A2|(refine A0 ?_ ?_ ?_;kernel_rfl;kernel_rfl) | refine nc [1,3] [0,0] hw rfl rfl rfl ⟨rfl,rfl,trivial⟩ ?_) <;> (try (conv=>whnf)))
        all_goals first
         | (exfalso;omega)
         | exact A8 h0 rfl ⟨rfl,rfl,rfl,rfl,rfl,trivial⟩ ⟨rfl,rfl,⟨_,rfl⟩,trivial⟩ rfl rfl rfl
         | exact ⟨(k + 1,false),⟨by dsimp only;omega,fun h=>(by cases h),fun _=>Nat.succ_pos _⟩,by first | omega | (dsimp only;omega),A8 h0 rfl ⟨rfl,rfl,rfl,rfl,rfl,trivial⟩ ⟨rfl,congrArg (fun z:List UInt8=>C0.bx bB [.ref 1 0, .row 3 0 z.length]) hsn,⟨_,congrArg (fun z:List UInt8=>C0.row eB 1 _ (G9 z)) hsn⟩,trivial⟩ rfl rfl rfl⟩
       ·have hcw:C3 c = [M3,c.name,Lib.itoa c.lst]:=by unfold C3;rw [if_neg (by omega),if_pos hk2]
        have hls:=b2 hk2
        have hit:=G5 c.lst (by omega) (by omega)
        rw [hcw] at hline hsn hNl hNn
        clear hcw
        generalize Lib.itoa c.lst = ip at *
        generalize B7 [M3,c.name,ip] = N at *
        have hw:=d5 X N (by omega)
        repeat' ((first | (refine G1 28 ?_;refine K1 (id:=28) (σ':=⟨[(1, .ref 0 0),(3, .ref 1 0),(43, .sl 7 (s.cols.map C2)),(44, .i s.cols.length),(45, .i k),(9, .iptr (C2 c))],4,(0,some (.box (sL s))) :: bU 1 3 (X)⟩) (A8 h0 rfl ⟨rfl,rfl,rfl,rfl,rfl,rfl,trivial⟩ ⟨rfl,rfl,⟨_,rfl⟩,trivial⟩ rfl rfl rfl) ?_;refine I3 (id:=28) ⟨[(1, .ref 0 0),(3, .ref 1 0),(43, .sl 7 (s.cols.map C2)),(44, .i s.cols.length),(45, .i k)],4,(0,some (.box (sL s))) :: bU 1 3 (X ++ N)⟩ ?_ ?_) | (refine A7 (x:=c) hc (by omega) ?_) | refine A9 hit ?_ | refine A9 hline ?_ |refine A1 ?_|refine S1 ?_|refine Z1 ?_|refine Z2 ?_|(refine And.intro ?_ ?_<;>intro h<;>try first|(exfalso;omega)|exact absurd rfl h)|refine Z3 ?_|refine Z4 ?_|intro el hel hbB|intro el hel|intro ex|refine Z5 ?_|(refine A6 ?_ ?_;exact ⟨by kernel_rfl,by decide⟩)|refine A5 ?_ ?_|exact A4|refine A3 ?_ ?_|exact A2|(refine A0 ?_ ?_ ?_;kernel_rfl;kernel_rfl) | refine nc [1,3] [0,0] hw rfl rfl rfl ⟨rfl,rfl,trivial⟩ ?_) <;> (try (conv=>whnf)))
        all_goals first
         | (exfalso;omega)
         | exact A8 h0 rfl ⟨rfl,rfl,rfl,rfl,rfl,trivial⟩ ⟨rfl,rfl,⟨_,rfl⟩,trivial⟩ rfl rfl rfl
         | exact ⟨(k + 1,false),⟨by dsimp only;omega,fun h=>(by cases h),fun _=>Nat.succ_pos _⟩,by first | omega | (dsimp only;omega),A8 h0 rfl ⟨rfl,rfl,rfl,rfl,rfl,trivial⟩ ⟨rfl,congrArg (fun z:List UInt8=>C0.bx bB [.ref 1 0, .row 3 0 z.length]) hsn,⟨_,congrArg (fun z:List UInt8=>C0.row eB 1 _ (G9 z)) hsn⟩,trivial⟩ rfl rfl rfl⟩
       ·have hcw:C3 c = AQ c:=by unfold C3;rw [if_neg (by omega),if_neg (by omega)]
        rw [hcw] at hline hsn hNl hNn
        clear hcw
        obtain ⟨m1,m2,m3,m4,m5,m6⟩:=a6 (b3 (by omega) (by omega))
        have hwb:=Ap m6
        have hi1:=G5 c.low (by omega) (by omega)
        have hi2:=G5 c.high (by omega) (by omega)
        have hmw:AQ c = [I5,c.name,Lib.itoa c.low,Lib.itoa c.high,if c.opt = true then G2 else F5] ++ c.widths.map Lib.itoa:=rfl
        generalize Lib.itoa c.low = i1 at *
        generalize Lib.itoa c.high = i2 at *
        generalize AQ c = W at *
        generalize B7 W = N at *
        have hw:=d5 X N (by omega)
        by_cases ho:c.opt = true
        ·rw [if_pos ho] at hmw
         repeat' ((first | (refine G1 16 ?_;refine K1 (id:=16) (σ':=⟨[(1, .ref 0 0),(3, .ref 1 0),(43, .sl 7 (s.cols.map C2)),(44, .i s.cols.length),(45, .i k),(9, .iptr (C2 c))],4,(0,some (.box (sL s))) :: bU 1 3 (X)⟩) (A8 h0 rfl ⟨rfl,rfl,rfl,rfl,rfl,rfl,trivial⟩ ⟨rfl,rfl,⟨_,rfl⟩,trivial⟩ rfl rfl rfl) ?_;refine I3 (id:=16) ⟨[(1, .ref 0 0),(3, .ref 1 0),(43, .sl 7 (s.cols.map C2)),(44, .i s.cols.length),(45, .i k),(9, .iptr (C2 c)),(10, .row 4 0 5)],5,(0,some (.box (sL s))) :: (4,some (.row n7 1 0 ([I5,c.name,i1,i2,F5].map E2))) :: bU 1 3 (X)⟩ ?_ ?_) | (refine BO ?_ ?_ ?_;kernel_rfl;kernel_rfl) | refine Z0 (T:=45) rfl ?_ | (refine A7 (x:=c) hc (by omega) ?_) | (refine FI (x:=[.str F5]) rfl rfl ?_) | refine A9 hi1 ?_ | refine A9 hi2 ?_ |refine A1 ?_|refine S1 ?_|refine Z1 ?_|refine Z2 ?_|(refine And.intro ?_ ?_<;>intro h<;>try first|(exfalso;omega)|exact absurd rfl h)|refine Z3 ?_|refine Z4 ?_|intro el hel hbB|intro el hel|intro ex|refine Z5 ?_|(refine A6 ?_ ?_;exact ⟨by kernel_rfl,by decide⟩)|refine A5 ?_ ?_|exact A4|refine A3 ?_ ?_|exact A2|(refine A0 ?_ ?_ ?_;kernel_rfl;kernel_rfl) | refine nc [1,3] [0,0] hw rfl rfl rfl ⟨rfl,rfl,trivial⟩ ?_) <;> (try (conv=>whnf)))
         all_goals first
          | (exfalso;omega)
          | exact absurd (ho.symm.trans h) (by decide)
          | exact absurd h ho
          | exact A8 h0 rfl ⟨rfl,rfl,rfl,rfl,rfl,rfl,rfl,trivial⟩ ⟨rfl,⟨_,rfl⟩,rfl,⟨_,rfl⟩,trivial⟩ rfl rfl rfl
          | skip
         refine C5 (ι:=Nat) (fun j=>⟨[(1, .ref 0 0),(3, .ref 1 0),(43, .sl 7 (s.cols.map C2)),(44, .i s.cols.length),(45, .i k),(10, .row 4 0 (5 + j)),(65, .sl 1 (c.widths.map wA)),(66, .i c.widths.length),(67, .i j)],5,(0,some (.box (sL s))) :: (4,some (.row n7 1 0 (([I5,c.name,i1,i2,G2] ++ (c.widths.take j).map Lib.itoa).map E2))) :: bU 1 3 (X)⟩) (fun j=>j ≤ c.widths.length) (fun j=>c.widths.length - j) 0 (Nat.zero_le _) (A8 h0 rfl ⟨rfl,rfl,rfl,rfl,rfl,rfl,rfl,rfl,rfl,trivial⟩ ⟨rfl,⟨_,rfl⟩,rfl,⟨_,rfl⟩,trivial⟩ rfl rfl rfl) (fun j hjl=>?_)
         by_cases hjt:j < c.widths.length
         ·obtain ⟨w,hww⟩:∃ w,c.widths[j]? = some w:=⟨_,List.getElem?_eq_getElem hjt⟩
          have hwb:=hwb w (List.mem_of_getElem? hww)
          have hit:=G5 w (by omega) (by omega)
          have htk:(c.widths.take (j + 1)).map Lib.itoa = (c.widths.take j).map Lib.itoa ++ [Lib.itoa w]:=by rw [R9 hww,List.map_append];rfl
          have hln:((c.widths.take j).map Lib.itoa).length = j:=by rw [List.length_map,List.length_take];omega
          generalize Lib.itoa w = iw at *
          generalize (c.widths.take j).map Lib.itoa = V at *
          repeat' ((first | (refine A7 (x:=w) hww (by omega) ?_) | refine A9 hit ?_ |refine A1 ?_|refine S1 ?_|refine Z1 ?_|refine Z2 ?_|(refine And.intro ?_ ?_<;>intro h<;>try first|(exfalso;omega)|exact absurd rfl h)|refine Z3 ?_|refine Z4 ?_|intro el hel hbB|intro el hel|intro ex|refine Z5 ?_|(refine A6 ?_ ?_;exact ⟨by kernel_rfl,by decide⟩)|refine A5 ?_ ?_|exact A4|refine A3 ?_ ?_|exact A2|(refine A0 ?_ ?_ ?_;kernel_rfl;kernel_rfl)) <;> (try (conv=>whnf)))
          all_goals first
           | (exfalso;omega)
           | exact ⟨j + 1,by omega,by omega,A8 h0 rfl ⟨rfl,rfl,rfl,rfl,rfl,rfl,rfl,rfl,rfl,trivial⟩ ⟨rfl,⟨_,congrArg (C0.row n7 1 _) (by rw [htk, ← List.append_assoc,List.map_append];rfl)⟩,rfl,⟨_,rfl⟩,trivial⟩ rfl rfl rfl⟩
         ·obtain rfl:j = c.widths.length:=by omega
          rw [List.take_length]
          rw [← hmw]
          repeat' ((first | refine A9 hline ?_ |refine A1 ?_|refine S1 ?_|refine Z1 ?_|refine Z2 ?_|(refine And.intro ?_ ?_<;>intro h<;>try first|(exfalso;omega)|exact absurd rfl h)|refine Z3 ?_|refine Z4 ?_|intro el hel hbB|intro el hel|intro ex|refine Z5 ?_|(refine A6 ?_ ?_;exact ⟨by kernel_rfl,by decide⟩)|refine A5 ?_ ?_|exact A4|refine A3 ?_ ?_|exact A2|(refine A0 ?_ ?_ ?_;kernel_rfl;kernel_rfl) | refine nc [1,3] [0,0] hw rfl rfl rfl ⟨rfl,rfl,trivial⟩ ?_ | refine P2 4 ?_) <;> (try (conv=>whnf)))
          all_goals first
           | (exfalso;omega)
           | exact A8 h0 rfl ⟨rfl,rfl,rfl,rfl,rfl,trivial⟩ ⟨rfl,rfl,⟨_,rfl⟩,trivial⟩ rfl rfl rfl
           | exact ⟨(k + 1,false),⟨by dsimp only;omega,fun h=>(by cases h),fun _=>Nat.succ_pos _⟩,by first | omega | (dsimp only;omega),A8 h0 rfl ⟨rfl,rfl,rfl,rfl,rfl,trivial⟩ ⟨rfl,congrArg (fun z:List UInt8=>C0.bx bB [.ref 1 0, .row 3 0 z.length]) hsn,⟨_,congrArg (fun z:List UInt8=>C0.row eB 1 _ (G9 z)) hsn⟩,trivial⟩ rfl rfl rfl⟩
        ·rw [if_neg ho] at hmw
         repeat' ((first | (refine G1 16 ?_;refine K1 (id:=16) (σ':=⟨[(1, .ref 0 0),(3, .ref 1 0),(43, .sl 7 (s.cols.map C2)),(44, .i s.cols.length),(45, .i k),(9, .iptr (C2 c))],4,(0,some (.box (sL s))) :: bU 1 3 (X)⟩) (A8 h0 rfl ⟨rfl,rfl,rfl,rfl,rfl,rfl,trivial⟩ ⟨rfl,rfl,⟨_,rfl⟩,trivial⟩ rfl rfl rfl) ?_;refine I3 (id:=16) ⟨[(1, .ref 0 0),(3, .ref 1 0),(43, .sl 7 (s.cols.map C2)),(44, .i s.cols.length),(45, .i k),(9, .iptr (C2 c)),(10, .row 4 0 5)],5,(0,some (.box (sL s))) :: (4,some (.row n7 1 0 ([I5,c.name,i1,i2,F5].map E2))) :: bU 1 3 (X)⟩ ?_ ?_) | (refine BO ?_ ?_ ?_;kernel_rfl;kernel_rfl) | refine Z0 (T:=45) rfl ?_ | (refine A7 (x:=c) hc (by omega) ?_) | (refine FI (x:=[.str F5]) rfl rfl ?_) | refine A9 hi1 ?_ | refine A9 hi2 ?_ |refine A1 ?_|refine S1 ?_|refine Z1 ?_|refine Z2 ?_|(refine And.intro ?_ ?_<;>intro h<;>try first|(exfalso;omega)|exact absurd rfl h)|refine Z3 ?_|refine Z4 ?_|intro el hel hbB|intro el hel|intro ex|refine Z5 ?_|(refine A6 ?_ ?_;exact ⟨by kernel_rfl,by decide⟩)|refine A5 ?_ ?_|exact A4|refine A3 ?_ ?_|exact A2|(refine A0 ?_ ?_ ?_;kernel_rfl;kernel_rfl) | refine nc [1,3] [0,0] hw rfl rfl rfl ⟨rfl,rfl,trivial⟩ ?_) <;> (try (conv=>whnf)))
         all_goals first
          | (exfalso;omega)
          | exact absurd (ho.symm.trans h) (by decide)
          | exact absurd h ho
          | exact A8 h0 rfl ⟨rfl,rfl,rfl,rfl,rfl,rfl,rfl,trivial⟩ ⟨rfl,⟨_,rfl⟩,rfl,⟨_,rfl⟩,trivial⟩ rfl rfl rfl
          | skip
         refine C5 (ι:=Nat) (fun j=>⟨[(1, .ref 0 0),(3, .ref 1 0),(43, .sl 7 (s.cols.map C2)),(44, .i s.cols.length),(45, .i k),(10, .row 4 0 (5 + j)),(65, .sl 1 (c.widths.map wA)),(66, .i c.widths.length),(67, .i j)],5,(0,some (.box (sL s))) :: (4,some (.row n7 1 0 (([I5,c.name,i1,i2,F5] ++ (c.widths.take j).map Lib.itoa).map E2))) :: bU 1 3 (X)⟩) (fun j=>j ≤ c.widths.length) (fun j=>c.widths.length - j) 0 (Nat.zero_le _) (A8 h0 rfl ⟨rfl,rfl,rfl,rfl,rfl,rfl,rfl,rfl,rfl,trivial⟩ ⟨rfl,⟨_,rfl⟩,rfl,⟨_,rfl⟩,trivial⟩ rfl rfl rfl) (fun j hjl=>?_)
         by_cases hjt:j < c.widths.length
         ·obtain ⟨w,hww⟩:∃ w,c.widths[j]? = some w:=⟨_,List.getElem?_eq_getElem hjt⟩
          have hwb:=hwb w (List.mem_of_getElem? hww)
          have hit:=G5 w (by omega) (by omega)
          have htk:(c.widths.take (j + 1)).map Lib.itoa = (c.widths.take j).map Lib.itoa ++ [Lib.itoa w]:=by rw [R9 hww,List.map_append];rfl
          have hln:((c.widths.take j).map Lib.itoa).length = j:=by rw [List.length_map,List.length_take];omega
          generalize Lib.itoa w = iw at *
          generalize (c.widths.take j).map Lib.itoa = V at *
          repeat' ((first | (refine A7 (x:=w) hww (by omega) ?_) | refine A9 hit ?_ |refine A1 ?_|refine S1 ?_|refine Z1 ?_|refine Z2 ?_|(refine And.intro ?_ ?_<;>intro h<;>try first|(exfalso;omega)|exact absurd rfl h)|refine Z3 ?_|refine Z4 ?_|intro el hel hbB|intro el hel|intro ex|refine Z5 ?_|(refine A6 ?_ ?_;exact ⟨by kernel_rfl,by decide⟩)|refine A5 ?_ ?_|exact A4|refine A3 ?_ ?_|exact A2|(refine A0 ?_ ?_ ?_;kernel_rfl;kernel_rfl)) <;> (try (conv=>whnf)))
          all_goals first
           | (exfalso;omega)
           | exact ⟨j + 1,by omega,by omega,A8 h0 rfl ⟨rfl,rfl,rfl,rfl,rfl,rfl,rfl,rfl,rfl,trivial⟩ ⟨rfl,⟨_,congrArg (C0.row n7 1 _) (by rw [htk, ← List.append_assoc,List.map_append];rfl)⟩,rfl,⟨_,rfl⟩,trivial⟩ rfl rfl rfl⟩
         ·obtain rfl:j = c.widths.length:=by omega
          rw [List.take_length]
          rw [← hmw]
          repeat' ((first | refine A9 hline ?_ |refine A1 ?_|refine S1 ?_|refine Z1 ?_|refine Z2 ?_|(refine And.intro ?_ ?_<;>intro h<;>try first|(exfalso;omega)|exact absurd rfl h)|refine Z3 ?_|refine Z4 ?_|intro el hel hbB|intro el hel|intro ex|refine Z5 ?_|(refine A6 ?_ ?_;exact ⟨by kernel_rfl,by decide⟩)|refine A5 ?_ ?_|exact A4|refine A3 ?_ ?_|exact A2|(refine A0 ?_ ?_ ?_;kernel_rfl;kernel_rfl) | refine nc [1,3] [0,0] hw rfl rfl rfl ⟨rfl,rfl,trivial⟩ ?_ | refine P2 4 ?_) <;> (try (conv=>whnf)))
          all_goals first
           | (exfalso;omega)
           | exact A8 h0 rfl ⟨rfl,rfl,rfl,rfl,rfl,trivial⟩ ⟨rfl,rfl,⟨_,rfl⟩,trivial⟩ rfl rfl rfl
           | exact ⟨(k + 1,false),⟨by dsimp only;omega,fun h=>(by cases h),fun _=>Nat.succ_pos _⟩,by first | omega | (dsimp only;omega),A8 h0 rfl ⟨rfl,rfl,rfl,rfl,rfl,trivial⟩ ⟨rfl,congrArg (fun z:List UInt8=>C0.bx bB [.ref 1 0, .row 3 0 z.length]) hsn,⟨_,congrArg (fun z:List UInt8=>C0.row eB 1 _ (G9 z)) hsn⟩,trivial⟩ rfl rfl rfl⟩
    ·obtain rfl:k = s.cols.length:=by omega
     cases f with
     | true=>exact absurd (List.eq_nil_of_length_eq_zero (hf1 rfl)) hne
     | false =>
       dsimp only
       rw [List.take_length]
       have hTn:([] ++ s.cols.flatMap fun c=>B7 (C3 c)) ≠ []:=MW (by
        intro e
        cases hcs:s.cols with
        | nil=>exact hne hcs
        | cons c r =>
          rw [hcs,List.flatMap_cons] at e
          exact d6 _ (List.append_eq_nil_iff.1 e).1)
       generalize [] ++ (s.cols.flatMap fun c=>B7 (C3 c)) = T at *
       have hs:=Rm T hTn
       repeat' ((first|refine A1 ?_|refine S1 ?_|refine Z1 ?_|refine Z2 ?_|(refine And.intro ?_ ?_<;>intro h<;>try first|(exfalso;omega)|exact absurd rfl h)|refine Z3 ?_|refine Z4 ?_|intro el hel hbB|intro el hel|intro ex|refine Z5 ?_|(refine A6 ?_ ?_;exact ⟨by kernel_rfl,by decide⟩)|refine A5 ?_ ?_|exact A4|refine A3 ?_ ?_|exact A2|(refine A0 ?_ ?_ ?_;kernel_rfl;kernel_rfl) | refine nc [1,3] [0,0] hs rfl rfl rfl ⟨rfl,rfl,trivial⟩ ?_) <;> (try (conv=>whnf)))
       all_goals first
        | (exfalso;omega)
        | exact B2 rfl rfl
  | false =>
    clear hH
    dsimp only
    repeat' ((first|refine A1 ?_|refine S1 ?_|refine Z1 ?_|refine Z2 ?_|(refine And.intro ?_ ?_<;>intro h<;>try first|(exfalso;omega)|exact absurd rfl h)|refine Z3 ?_|refine Z4 ?_|intro el hel hbB|intro el hel|intro ex|refine Z5 ?_|(refine A6 ?_ ?_;exact ⟨by kernel_rfl,by decide⟩)|refine A5 ?_ ?_|exact A4|refine A3 ?_ ?_|exact A2|(refine A0 ?_ ?_ ?_;kernel_rfl;kernel_rfl)) <;> (try (conv=>whnf)))
    refine C5 (ι:=Nat) (fun k=>⟨[(1, .ref 0 0),(3, .ref 1 0),(43, .sl 7 (s.cols.map C2)),(44, .i s.cols.length),(45, .i k)],4,(0,some (.box (sL s))) :: bU 1 3 (H ++ ((s.cols.take k).flatMap fun c=>B7 (C3 c)))⟩) (fun k=>k ≤ s.cols.length) (fun k=>s.cols.length - k) 0 (Nat.zero_le _)
     (A8 h0 rfl ⟨rfl,rfl,rfl,rfl,rfl,trivial⟩ ⟨rfl,congrArg (fun z:List UInt8=>C0.bx bB [.ref 1 0, .row 3 0 z.length]) (show H ++ _ = H from List.append_nil _),⟨_,congrArg (fun z:List UInt8=>C0.row eB 1 _ (G9 z)) (show H ++ _ = H from List.append_nil _)⟩,trivial⟩ rfl rfl rfl) (fun k hk=>?_)
    by_cases hlt:k < s.cols.length
    ·obtain ⟨c,hc⟩:∃ c,s.cols[k]? = some c:=⟨_,List.getElem?_eq_getElem hlt⟩
     have hcm:=List.mem_of_getElem? hc
     obtain ⟨w1,w2⟩:=hcol c hcm
     obtain ⟨b1,b2,b3⟩:=hcb c hcm
     have hkc:=hknd k c hc
     have hj:=W9 (C3 c) 21 w1
     have hj2:=Nat.mul_le_mul_right 22 w2
     have hline:=k0 (C3 c) (by omega) (by omega)
     have hN:=U5 w1
     have hNn:=d6 (C3 c)
     have hsn:=W3 (fun c=>B7 (C3 c)) s.cols k hc
     have hpk:=hpc k
     have hsn:H ++ ((s.cols.take (k + 1)).flatMap fun c=>B7 (C3 c)) = H ++ ((s.cols.take k).flatMap fun c=>B7 (C3 c)) ++ B7 (C3 c):=by rw [List.append_assoc];exact congrArg (H ++ ·) hsn
     have hNl:(B7 (C3 c)).length ≤ 199:=by omega
     clear hcol hcb hknd hj hj2 hN w1 w2
     have hXl:(H ++ ((s.cols.take k).flatMap fun c=>B7 (C3 c))).length ≤ 26300:=by simp only [List.length_append,List.length_nil] at hTl ⊢;omega
     generalize H ++ ((s.cols.take k).flatMap fun c=>B7 (C3 c)) = X at *
     rcases hkc with ⟨hk1,_⟩ | ⟨hk2,_⟩ | ⟨hk3,_⟩
     ·have hcw:C3 c = [W2,c.name]:=by unfold C3;rw [if_pos hk1]
      rw [hcw] at hline hsn hNl hNn
      clear hcw
      generalize B7 [W2,c.name] = N at *
      have hw:=d5 X N (by omega)
      repeat' ((first | (refine A7 (x:=c) hc (by omega) ?_) | refine A9 hline ?_ |refine A1 ?_|refine S1 ?_|refine Z1 ?_|refine Z2 ?_|(refine And.intro ?_ ?_<;>intro h<;>try first|(exfalso;omega)|exact absurd rfl h)|refine Z3 ?_|refine Z4 ?_|intro el hel hbB|intro el hel|intro ex|refine Z5 ?_|(refine A6 ?_ ?_;exact ⟨by kernel_rfl,by decide⟩)|refine A5 ?_ ?_|exact A4|refine A3 ?_ ?_|exact A2|(refine A0 ?_ ?_ ?_;kernel_rfl;kernel_rfl) | refine nc [1,3] [0,0] hw rfl rfl rfl ⟨rfl,rfl,trivial⟩ ?_) <;> (try (conv=>whnf)))
      all_goals first
       | (exfalso;omega)
       | exact A8 h0 rfl ⟨rfl,rfl,rfl,rfl,rfl,trivial⟩ ⟨rfl,rfl,⟨_,rfl⟩,trivial⟩ rfl rfl rfl
       | exact ⟨k + 1,by omega,by first | omega | (dsimp only;omega),A8 h0 rfl ⟨rfl,rfl,rfl,rfl,rfl,trivial⟩ ⟨rfl,congrArg (fun z:List UInt8=>C0.bx bB [.ref 1 0, .row 3 0 z.length]) hsn,⟨_,congrArg (fun z:List UInt8=>C0.row eB 1 _ (G9 z)) hsn⟩,trivial⟩ rfl rfl rfl⟩
     ·have hcw:C3 c = [M3,c.name,Lib.itoa c.lst]:=by unfold C3;rw [if_neg (by omega),if_pos hk2]
      have hls:=b2 hk2
      have hit:=G5 c.lst (by omega) (by omega)
      rw [hcw] at hline hsn hNl hNn
      clear hcw
      generalize Lib.itoa c.lst = ip at *
      generalize B7 [M3,c.name,ip] = N at *
      have hw:=d5 X N (by omega)
      repeat' ((first | (refine G1 28 ?_;refine K1 (id:=28) (σ':=⟨[(1, .ref 0 0),(3, .ref 1 0),(43, .sl 7 (s.cols.map C2)),(44, .i s.cols.length),(45, .i k),(9, .iptr (C2 c))],4,(0,some (.box (sL s))) :: bU 1 3 (X)⟩) (A8 h0 rfl ⟨rfl,rfl,rfl,rfl,rfl,rfl,trivial⟩ ⟨rfl,rfl,⟨_,rfl⟩,trivial⟩ rfl rfl rfl) ?_;refine I3 (id:=28) ⟨[(1, .ref 0 0),(3, .ref 1 0),(43, .sl 7 (s.cols.map C2)),(44, .i s.cols.length),(45, .i k)],4,(0,some (.box (sL s))) :: bU 1 3 (X ++ N)⟩ ?_ ?_) | (refine A7 (x:=c) hc (by omega) ?_) | refine A9 hit ?_ | refine A9 hline ?_ |refine A1 ?_|refine S1 ?_|refine Z1 ?_|refine Z2 ?_|(refine And.intro ?_ ?_<;>intro h<;>try first|(exfalso;omega)|exact absurd rfl h)|refine Z3 ?_|refine Z4 ?_|intro el hel hbB|intro el hel|intro ex|refine Z5 ?_|(refine A6 ?_ ?_;exact ⟨by kernel_rfl,by decide⟩)|refine A5 ?_ ?_|exact A4|refine A3 ?_ ?_|exact A2|(refine A0 ?_ ?_ ?_;kernel_rfl;kernel_rfl) | refine nc [1,3] [0,0] hw rfl rfl rfl ⟨rfl,rfl,trivial⟩ ?_) <;> (try (conv=>whnf)))
      all_goals first
       | (exfalso;omega)
       | exact A8 h0 rfl ⟨rfl,rfl,rfl,rfl,rfl,trivial⟩ ⟨rfl,rfl,⟨_,rfl⟩,trivial⟩ rfl rfl rfl
       | exact ⟨k + 1,by omega,by first | omega | (dsimp only;omega),A8 h0 rfl ⟨rfl,rfl,rfl,rfl,rfl,trivial⟩ ⟨rfl,congrArg (fun z:List UInt8=>C0.bx bB [.ref 1 0, .row 3 0 z.length]) hsn,⟨_,congrArg (fun z:List UInt8=>C0.row eB 1 _ (G9 z)) hsn⟩,trivial⟩ rfl rfl rfl⟩
     ·have hcw:C3 c = AQ c:=by unfold C3;rw [if_neg (by omega),if_neg (by omega)]
      rw [hcw] at hline hsn hNl hNn
      clear hcw
      obtain ⟨m1,m2,m3,m4,m5,m6⟩:=a6 (b3 (by omega) (by omega))
      have hwb:=Ap m6
      have hi1:=G5 c.low (by omega) (by omega)
      have hi2:=G5 c.high (by omega) (by omega)
      have hmw:AQ c = [I5,c.name,Lib.itoa c.low,Lib.itoa c.high,if c.opt = true then G2 else F5] ++ c.widths.map Lib.itoa:=rfl
      generalize Lib.itoa c.low = i1 at *
      generalize Lib.itoa c.high = i2 at *
      generalize AQ c = W at *
      generalize B7 W = N at *
      have hw:=d5 X N (by omega)
      by_cases ho:c.opt = true
      ·rw [if_pos ho] at hmw
       repeat' ((first | (refine G1 16 ?_;refine K1 (id:=16) (σ':=⟨[(1, .ref 0 0),(3, .ref 1 0),(43, .sl 7 (s.cols.map C2)),(44, .i s.cols.length),(45, .i k),(9, .iptr (C2 c))],4,(0,some (.box (sL s))) :: bU 1 3 (X)⟩) (A8 h0 rfl ⟨rfl,rfl,rfl,rfl,rfl,rfl,trivial⟩ ⟨rfl,rfl,⟨_,rfl⟩,trivial⟩ rfl rfl rfl) ?_;refine I3 (id:=16) ⟨[(1, .ref 0 0),(3, .ref 1 0),(43, .sl 7 (s.cols.map C2)),(44, .i s.cols.length),(45, .i k),(9, .iptr (C2 c)),(10, .row 4 0 5)],5,(0,some (.box (sL s))) :: (4,some (.row n7 1 0 ([I5,c.name,i1,i2,F5].map E2))) :: bU 1 3 (X)⟩ ?_ ?_) | (refine BO ?_ ?_ ?_;kernel_rfl;kernel_rfl) | refine Z0 (T:=45) rfl ?_ | (refine A7 (x:=c) hc (by omega) ?_) | (refine FI (x:=[.str F5]) rfl rfl ?_) | refine A9 hi1 ?_ | refine A9 hi2 ?_ |refine A1 ?_|refine S1 ?_|refine Z1 ?_|refine Z2 ?_|(refine And.intro ?_ ?_<;>intro h<;>try first|(exfalso;omega)|exact absurd rfl h)|refine Z3 ?_|refine Z4 ?_|intro el hel hbB|intro el hel|intro ex|refine Z5 ?_|(refine A6 ?_ ?_;exact ⟨by kernel_rfl,by decide⟩)|refine A5 ?_ ?_|exact A4|refine A3 ?_ ?_|exact A2|(refine A0 ?_ ?_ ?_;kernel_rfl;kernel_rfl) | refine nc [1,3] [0,0] hw rfl rfl rfl ⟨rfl,rfl,trivial⟩ ?_) <;> (try (conv=>whnf)))
       all_goals first
        | (exfalso;omega)
        | exact absurd (ho.symm.trans h) (by decide)
        | exact absurd h ho
        | exact A8 h0 rfl ⟨rfl,rfl,rfl,rfl,rfl,rfl,rfl,trivial⟩ ⟨rfl,⟨_,rfl⟩,rfl,⟨_,rfl⟩,trivial⟩ rfl rfl rfl
        | skip
       refine C5 (ι:=Nat) (fun j=>⟨[(1, .ref 0 0),(3, .ref 1 0),(43, .sl 7 (s.cols.map C2)),(44, .i s.cols.length),(45, .i k),(10, .row 4 0 (5 + j)),(65, .sl 1 (c.widths.map wA)),(66, .i c.widths.length),(67, .i j)],5,(0,some (.box (sL s))) :: (4,some (.row n7 1 0 (([I5,c.name,i1,i2,G2] ++ (c.widths.take j).map Lib.itoa).map E2))) :: bU 1 3 (X)⟩) (fun j=>j ≤ c.widths.length) (fun j=>c.widths.length - j) 0 (Nat.zero_le _) (A8 h0 rfl ⟨rfl,rfl,rfl,rfl,rfl,rfl,rfl,rfl,rfl,trivial⟩ ⟨rfl,⟨_,rfl⟩,rfl,⟨_,rfl⟩,trivial⟩ rfl rfl rfl) (fun j hjl=>?_)
       by_cases hjt:j < c.widths.length
       ·obtain ⟨w,hww⟩:∃ w,c.widths[j]? = some w:=⟨_,List.getElem?_eq_getElem hjt⟩
        have hwb:=hwb w (List.mem_of_getElem? hww)
        have hit:=G5 w (by omega) (by omega)
        have htk:(c.widths.take (j + 1)).map Lib.itoa = (c.widths.take j).map Lib.itoa ++ [Lib.itoa w]:=by rw [R9 hww,List.map_append];rfl
        have hln:((c.widths.take j).map Lib.itoa).length = j:=by rw [List.length_map,List.length_take];omega
        generalize Lib.itoa w = iw at *
        generalize (c.widths.take j).map Lib.itoa = V at *
        repeat' ((first | (refine A7 (x:=w) hww (by omega) ?_) | refine A9 hit ?_ |refine A1 ?_|refine S1 ?_|refine Z1 ?_|refine Z2 ?_|(refine And.intro ?_ ?_<;>intro h<;>try first|(exfalso;omega)|exact absurd rfl h)|refine Z3 ?_|refine Z4 ?_|intro el hel hbB|intro el hel|intro ex|refine Z5 ?_|(refine A6 ?_ ?_;exact ⟨by kernel_rfl,by decide⟩)|refine A5 ?_ ?_|exact A4|refine A3 ?_ ?_|exact A2|(refine A0 ?_ ?_ ?_;kernel_rfl;kernel_rfl)) <;> (try (conv=>whnf)))
        all_goals first
         | (exfalso;omega)
         | exact ⟨j + 1,by omega,by omega,A8 h0 rfl ⟨rfl,rfl,rfl,rfl,rfl,rfl,rfl,rfl,rfl,trivial⟩ ⟨rfl,⟨_,congrArg (C0.row n7 1 _) (by rw [htk, ← List.append_assoc,List.map_append];rfl)⟩,rfl,⟨_,rfl⟩,trivial⟩ rfl rfl rfl⟩
       ·obtain rfl:j = c.widths.length:=by omega
        rw [List.take_length]
        rw [← hmw]
        repeat' ((first | refine A9 hline ?_ |refine A1 ?_|refine S1 ?_|refine Z1 ?_|refine Z2 ?_|(refine And.intro ?_ ?_<;>intro h<;>try first|(exfalso;omega)|exact absurd rfl h)|refine Z3 ?_|refine Z4 ?_|intro el hel hbB|intro el hel|intro ex|refine Z5 ?_|(refine A6 ?_ ?_;exact ⟨by kernel_rfl,by decide⟩)|refine A5 ?_ ?_|exact A4|refine A3 ?_ ?_|exact A2|(refine A0 ?_ ?_ ?_;kernel_rfl;kernel_rfl) | refine nc [1,3] [0,0] hw rfl rfl rfl ⟨rfl,rfl,trivial⟩ ?_ | refine P2 4 ?_) <;> (try (conv=>whnf)))
        all_goals first
         | (exfalso;omega)
         | exact A8 h0 rfl ⟨rfl,rfl,rfl,rfl,rfl,trivial⟩ ⟨rfl,rfl,⟨_,rfl⟩,trivial⟩ rfl rfl rfl
         | exact ⟨k + 1,by omega,by first | omega | (dsimp only;omega),A8 h0 rfl ⟨rfl,rfl,rfl,rfl,rfl,trivial⟩ ⟨rfl,congrArg (fun z:List UInt8=>C0.bx bB [.ref 1 0, .row 3 0 z.length]) hsn,⟨_,congrArg (fun z:List UInt8=>C0.row eB 1 _ (G9 z)) hsn⟩,trivial⟩ rfl rfl rfl⟩
      ·rw [if_neg ho] at hmw
       repeat' ((first | (refine G1 16 ?_;refine K1 (id:=16) (σ':=⟨[(1, .ref 0 0),(3, .ref 1 0),(43, .sl 7 (s.cols.map C2)),(44, .i s.cols.length),(45, .i k),(9, .iptr (C2 c))],4,(0,some (.box (sL s))) :: bU 1 3 (X)⟩) (A8 h0 rfl ⟨rfl,rfl,rfl,rfl,rfl,rfl,trivial⟩ ⟨rfl,rfl,⟨_,rfl⟩,trivial⟩ rfl rfl rfl) ?_;refine I3 (id:=16) ⟨[(1, .ref 0 0),(3, .ref 1 0),(43, .sl 7 (s.cols.map C2)),(44, .i s.cols.length),(45, .i k),(9, .iptr (C2 c)),(10, .row 4 0 5)],5,(0,some (.box (sL s))) :: (4,some (.row n7 1 0 ([I5,c.name,i1,i2,F5].map E2))) :: bU 1 3 (X)⟩ ?_ ?_) | (refine BO ?_ ?_ ?_;kernel_rfl;kernel_rfl) | refine Z0 (T:=45) rfl ?_ | (refine A7 (x:=c) hc (by omega) ?_) | (refine FI (x:=[.str F5]) rfl rfl ?_) | refine A9 hi1 ?_ | refine A9 hi2 ?_ |refine A1 ?_|refine S1 ?_|refine Z1 ?_|refine Z2 ?_|(refine And.intro ?_ ?_<;>intro h<;>try first|(exfalso;omega)|exact absurd rfl h)|refine Z3 ?_|refine Z4 ?_|intro el hel hbB|intro el hel|intro ex|refine Z5 ?_|(refine A6 ?_ ?_;exact ⟨by kernel_rfl,by decide⟩)|refine A5 ?_ ?_|exact A4|refine A3 ?_ ?_|exact A2|(refine A0 ?_ ?_ ?_;kernel_rfl;kernel_rfl) | refine nc [1,3] [0,0] hw rfl rfl rfl ⟨rfl,rfl,trivial⟩ ?_) <;> (try (conv=>whnf)))
       all_goals first
        | (exfalso;omega)
        | exact absurd (ho.symm.trans h) (by decide)
        | exact absurd h ho
        | exact A8 h0 rfl ⟨rfl,rfl,rfl,rfl,rfl,rfl,rfl,trivial⟩ ⟨rfl,⟨_,rfl⟩,rfl,⟨_,rfl⟩,trivial⟩ rfl rfl rfl
        | skip
       refine C5 (ι:=Nat) (fun j=>⟨[(1, .ref 0 0),(3, .ref 1 0),(43, .sl 7 (s.cols.map C2)),(44, .i s.cols.length),(45, .i k),(10, .row 4 0 (5 + j)),(65, .sl 1 (c.widths.map wA)),(66, .i c.widths.length),(67, .i j)],5,(0,some (.box (sL s))) :: (4,some (.row n7 1 0 (([I5,c.name,i1,i2,F5] ++ (c.widths.take j).map Lib.itoa).map E2))) :: bU 1 3 (X)⟩) (fun j=>j ≤ c.widths.length) (fun j=>c.widths.length - j) 0 (Nat.zero_le _) (A8 h0 rfl ⟨rfl,rfl,rfl,rfl,rfl,rfl,rfl,rfl,rfl,trivial⟩ ⟨rfl,⟨_,rfl⟩,rfl,⟨_,rfl⟩,trivial⟩ rfl rfl rfl) (fun j hjl=>?_)
       by_cases hjt:j < c.widths.length
       ·obtain ⟨w,hww⟩:∃ w,c.widths[j]? = some w:=⟨_,List.getElem?_eq_getElem hjt⟩
        have hwb:=hwb w (List.mem_of_getElem? hww)
        have hit:=G5 w (by omega) (by omega)
        have htk:(c.widths.take (j + 1)).map Lib.itoa = (c.widths.take j).map Lib.itoa ++ [Lib.itoa w]:=by rw [R9 hww,List.map_append];rfl
        have hln:((c.widths.take j).map Lib.itoa).length = j:=by rw [List.length_map,List.length_take];omega
        generalize Lib.itoa w = iw at *
        generalize (c.widths.take j).map Lib.itoa = V at *
        repeat' ((first | (refine A7 (x:=w) hww (by omega) ?_) | refine A9 hit ?_ |refine A1 ?_|refine S1 ?_|refine Z1 ?_|refine Z2 ?_|(refine And.intro ?_ ?_<;>intro h<;>try first|(exfalso;omega)|exact absurd rfl h)|refine Z3 ?_|refine Z4 ?_|intro el hel hbB|intro el hel|intro ex|refine Z5 ?_|(refine A6 ?_ ?_;exact ⟨by kernel_rfl,by decide⟩)|refine A5 ?_ ?_|exact A4|refine A3 ?_ ?_|exact A2|(refine A0 ?_ ?_ ?_;kernel_rfl;kernel_rfl)) <;> (try (conv=>whnf)))
        all_goals first
         | (exfalso;omega)
         | exact ⟨j + 1,by omega,by omega,A8 h0 rfl ⟨rfl,rfl,rfl,rfl,rfl,rfl,rfl,rfl,rfl,trivial⟩ ⟨rfl,⟨_,congrArg (C0.row n7 1 _) (by rw [htk, ← List.append_assoc,List.map_append];rfl)⟩,rfl,⟨_,rfl⟩,trivial⟩ rfl rfl rfl⟩
       ·obtain rfl:j = c.widths.length:=by omega
        rw [List.take_length]
        rw [← hmw]
        repeat' ((first | refine A9 hline ?_ |refine A1 ?_|refine S1 ?_|refine Z1 ?_|refine Z2 ?_|(refine And.intro ?_ ?_<;>intro h<;>try first|(exfalso;omega)|exact absurd rfl h)|refine Z3 ?_|refine Z4 ?_|intro el hel hbB|intro el hel|intro ex|refine Z5 ?_|(refine A6 ?_ ?_;exact ⟨by kernel_rfl,by decide⟩)|refine A5 ?_ ?_|exact A4|refine A3 ?_ ?_|exact A2|(refine A0 ?_ ?_ ?_;kernel_rfl;kernel_rfl) | refine nc [1,3] [0,0] hw rfl rfl rfl ⟨rfl,rfl,trivial⟩ ?_ | refine P2 4 ?_) <;> (try (conv=>whnf)))
        all_goals first
         | (exfalso;omega)
         | exact A8 h0 rfl ⟨rfl,rfl,rfl,rfl,rfl,trivial⟩ ⟨rfl,rfl,⟨_,rfl⟩,trivial⟩ rfl rfl rfl
         | exact ⟨k + 1,by omega,by first | omega | (dsimp only;omega),A8 h0 rfl ⟨rfl,rfl,rfl,rfl,rfl,trivial⟩ ⟨rfl,congrArg (fun z:List UInt8=>C0.bx bB [.ref 1 0, .row 3 0 z.length]) hsn,⟨_,congrArg (fun z:List UInt8=>C0.row eB 1 _ (G9 z)) hsn⟩,trivial⟩ rfl rfl rfl⟩
    ·obtain rfl:k = s.cols.length:=by omega
     rw [List.take_length]
     have hTn:(H ++ s.cols.flatMap fun c=>B7 (C3 c)) ≠ []:=MW (by
      intro e
      cases hcs:s.cols with
      | nil=>exact hne hcs
      | cons c r =>
        rw [hcs,List.flatMap_cons] at e
        exact d6 _ (List.append_eq_nil_iff.1 e).1)
     generalize H ++ (s.cols.flatMap fun c=>B7 (C3 c)) = T at *
     have hs:=Rm T hTn
     repeat' ((first|refine A1 ?_|refine S1 ?_|refine Z1 ?_|refine Z2 ?_|(refine And.intro ?_ ?_<;>intro h<;>try first|(exfalso;omega)|exact absurd rfl h)|refine Z3 ?_|refine Z4 ?_|intro el hel hbB|intro el hel|intro ex|refine Z5 ?_|(refine A6 ?_ ?_;exact ⟨by kernel_rfl,by decide⟩)|refine A5 ?_ ?_|exact A4|refine A3 ?_ ?_|exact A2|(refine A0 ?_ ?_ ?_;kernel_rfl;kernel_rfl) | refine nc [1,3] [0,0] hs rfl rfl rfl ⟨rfl,rfl,trivial⟩ ?_) <;> (try (conv=>whnf)))
     all_goals first
      | (exfalso;omega)
      | exact B2 rfl rfl
end Go.Proofs.YtiphlhoclaogjabGreatDoor
