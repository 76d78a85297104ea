/- Chapter 3: the lines of code lists and columns. -/
import Derived.Test.YtiphlhoclaogjabGreatDoorQF7
set_option linter.unusedVariables false
set_option linter.unnecessarySimpa false
set_option linter.unusedSimpArgs false
namespace Go.Proofs.YtiphlhoclaogjabGreatDoor
open Go Go.Av
attribute [local irreducible] D6 B8 D8 D7 DQ E0 E1 St.le B4 B9
set_option maxRecDepth 100000
abbrev bU (i j:Nat) (t:List UInt8):Hp:=[(i,some (.bx bB [.ref i 0, .row j 0 t.length])),(j,some (.row eB 1 0 (H5 t)))]
theorem W2 {α:Type} (f:α → List UInt8) (l:List α) (k:Nat) {x:α} (h:l[k]? = some x):(l.take (k + 1)).flatMap f = (l.take k).flatMap f ++ f x:=by
 rw [Q2 h,List.flatMap_append];simp
theorem Z8 {α:Type} (f:α → List UInt8) (l:List α) (k:Nat):((l.take k).flatMap f).length ≤ (l.flatMap f).length:=by
 conv=>rhs;rw [← List.take_append_drop k l]
 rw [List.flatMap_append,List.length_append];omega
theorem PM {s:C4} (hr:H6 s = 0) {k:Nat} {c:C5} (hc:s.cols[k]? = some c):(c.kind = 1 ∧ k = 0) ∨ (c.kind = 2 ∧ k ≠ 0) ∨ (c.kind = 3 ∧ k ≠ 0):=by
 obtain ⟨q1,q2,q3,q4,q5⟩:=J7 hr
 obtain ⟨_,_,h3,_⟩:=Df (q4 k _ hc)
 have h0:k = 0 → c.kind = 1:=by
  rintro rfl
  rw [List.head?_eq_getElem?,hc] at q5
  exact Option.some.inj q5
 rcases GC h3 with h | h | h
 ·exact .inl h
 ·exact .inr (.inl ⟨h,fun h0'=>by have:=h0 h0';omega⟩)
 ·exact .inr (.inr ⟨h,fun h0'=>by have:=h0 h0';omega⟩)
theorem Fa {s:C4} (hr:H6 s = 0):s.cols ≠ []:=by
 have h:=(J7 hr).2.2.2.2
 intro e
 rw [e] at h
 cases h
theorem MJ {a b:List UInt8} (h:b ≠ []):a ++ b ≠ []:=by
 intro e;exact h (List.append_eq_nil_iff.1 e).2
set_option maxHeartbeats 16000000 in
theorem RW (s:C4) (hr:H6 s = 0):B4 Tryz.prog 28 [sA s] (.str (AE s)):=by
 have hbd:=Iw hr
 obtain ⟨q1,q2,q3,q4,q5⟩:=J7 hr
 have hls:∀ l ∈ s.lists,_:=fun l hl=>Iv hr hl
 refine F3 Tryz.func28 99 fun hrd E h0=>?_
 clear hrd
 repeat' ((first | refine GF (T:=63) rfl ?_ |refine A4 ?_|refine S1 ?_|refine Z1 ?_|refine Z2 ?_|(refine And.intro ?_ ?_<;>intro h<;>try first|(exfalso;omega)|exact absurd rfl h)|refine Z3 ?_|refine Z4 ?_|intro el hel hbB|intro el hel|intro ex|refine Z5 ?_|(refine A9 ?_ ?_;exact ⟨by kernel_rfl,by decide⟩)|refine A8 ?_ ?_|exact A7|refine A6 ?_ ?_|exact A5|(refine A0 ?_ ?_ ?_;kernel_rfl;kernel_rfl)) <;> (try (conv=>whnf)))
 refine C2 (ι:=Nat × Bool) (fun x=>match x.2 with
  | true=>⟨[(1, .ref 0 0),(3, .ref 1 0),(14, .sl 2 (s.lists.map D3)),(15, .i s.lists.length),(16, .i x.1)],2,[(0,some (.box (sL s))),(1,some PL)]⟩
  | false=>⟨[(1, .ref 0 0),(3, .ref 1 0),(14, .sl 2 (s.lists.map D3)),(15, .i s.lists.length),(16, .i x.1)],4,(0,some (.box (sL s))) :: bU 1 3 ((s.lists.take x.1).flatMap Z6)⟩)
  (fun x=>x.1 ≤ s.lists.length ∧ (x.2 = true → x.1 = 0) ∧ (x.2 = false → 0 < x.1)) (fun x=>s.lists.length - x.1) (0,true) ⟨Nat.zero_le _,fun _=>rfl,fun h=>by cases h⟩ (B0 h0 rfl ⟨rfl,rfl,rfl,rfl,rfl,trivial⟩ ⟨rfl,rfl,trivial⟩ rfl rfl rfl) (fun x hI=>?_)
 obtain ⟨k,f⟩:=x
 obtain ⟨hk,hf1,hf2⟩:=hI
 dsimp only at hk hf1 hf2
 by_cases hlt:k < s.lists.length
 ·obtain ⟨l,hl⟩:∃ l,s.lists[k]? = some l:=⟨_,List.getElem?_eq_getElem hlt⟩
  have hch:=q3 l (List.mem_of_getElem? hl)
  have hl4:=hls l (List.mem_of_getElem? hl)
  have hc60:=(M3 hch).2.2
  have hpart:=Z8 Z6 s.lists k
  have hpl:((s.lists.take k).flatMap Z6).length ≤ 26300:=by
   have:(s.lists.flatMap Z6).length ≤ (AE s).length:=by unfold AE;rw [List.length_append];omega
   omega
  have hsn:=W2 Z6 s.lists k hl
  have hnm:l.1.length ≤ 16:=by
   have:E7 l.1 = true:=by
    cases hb:E7 l.1 with
    | true=>rfl
    | false=>rw [← Bh (cs:=l.2) hb] at hch;cases hch
   exact Ar this
  have hj:=W8 [I8,l.1] 21 (fun w hw=>by
   simp only [List.mem_cons,List.not_mem_nil,or_false] at hw
   rcases hw with rfl | rfl
   ·decide
   ·omega)
  simp only [List.length_cons,List.length_nil] at hj
  have hline:=j8 [I8,l.1] (by simp) (by omega)
  have hcw:∀ c ∈ l.2,_:=fun c hc=>Iu hch hc
  have hcp:∀ c ∈ l.2,_:=fun c hc=>FZ hch hc
  have hlT:Z6 l = C7 [I8,l.1] ++ l.2.flatMap fun c=>C7 (N1 c):=rfl
  have h0T:(C7 [I8,l.1]).length ≤ 100:=by unfold C7;rw [List.length_append];simp only [List.length_cons,List.length_nil];omega
  have h0n:=BT [I8,l.1]
  generalize C7 [I8,l.1] = L0 at *
  generalize hTk:(s.lists.take k).flatMap Z6 = T at *
  have hw1:=Gc L0 (by omega)
  have hw2:=d5 T L0 (by omega)
  have hpc:=Z8 (fun c=>C7 (N1 c)) l.2
  have hT0:f = true → T = []:=fun h=>by rw [← hTk,hf1 h];rfl
  clear hls hpart hbd hTk
  cases f with
  | true =>
    have hk0:=hf1 rfl
    have hT:=hT0 rfl
    subst hk0 hT
    rw [List.nil_append] at hsn
    dsimp only
    repeat' ((first | (refine A3 (x:=l) hl (by omega) ?_) | refine B2 hline ?_ |refine A4 ?_|refine S1 ?_|refine Z1 ?_|refine Z2 ?_|(refine And.intro ?_ ?_<;>intro h<;>try first|(exfalso;omega)|exact absurd rfl h)|refine Z3 ?_|refine Z4 ?_|intro el hel hbB|intro el hel|intro ex|refine Z5 ?_|(refine A9 ?_ ?_;exact ⟨by kernel_rfl,by decide⟩)|refine A8 ?_ ?_|exact A7|refine A6 ?_ ?_|exact A5|(refine A0 ?_ ?_ ?_;kernel_rfl;kernel_rfl) | refine nc [1] [0] hw1 rfl rfl rfl ⟨rfl,trivial⟩ ?_) <;> (try (conv=>whnf)))
    refine C2 (ι:=Nat) (fun j=>⟨[(1, .ref 0 0),(3, .ref 1 0),(14, .sl 2 (s.lists.map D3)),(15, .i s.lists.length),(16, .i (0:Nat)),(26, .sl 2 (l.2.map cA)),(27, .i l.2.length),(28, .i j)],4,(0,some (.box (sL s))) :: bU 1 3 (L0 ++ ((l.2.take j).flatMap fun c=>C7 (N1 c)))⟩) (fun j=>j ≤ l.2.length) (fun j=>l.2.length - j) 0 (Nat.zero_le _)
     (B0 h0 rfl ⟨rfl,rfl,rfl,rfl,rfl,rfl,rfl,rfl,trivial⟩ ⟨rfl,congrArg (fun z:List UInt8=>C6.bx bB [.ref 1 0, .row 3 0 z.length]) (show L0 ++ _ = L0 from List.append_nil _),⟨_,congrArg (fun z:List UInt8=>C6.row eB 1 _ (H5 z)) (show L0 ++ _ = L0 from List.append_nil _)⟩,trivial⟩ rfl rfl rfl) (fun j hjl=>?_)
    by_cases hjt:j < l.2.length
    ·obtain ⟨c,hc⟩:∃ c,l.2[j]? = some c:=⟨_,List.getElem?_eq_getElem hjt⟩
     have hcm:=List.mem_of_getElem? hc
     obtain ⟨_,p1,p2⟩:=hcp c hcm
     have hit:=G7 c.parent (by omega) (by omega)
     have hj3:=W8 (N1 c) 21 (hcw c hcm)
     have hn3:(N1 c).length = 3:=rfl
     have hln:=j8 (N1 c) (by omega) (by omega)
     have hlb:(C7 (N1 c)).length ≤ 67:=by unfold C7;rw [List.length_append];simp only [List.length_cons,List.length_nil];omega
     have hsj:=W2 (fun c=>C7 (N1 c)) l.2 j hc
     have hpj:=hpc j
     have hcT:(l.2.flatMap fun c=>C7 (N1 c)).length ≤ 4100:=by rw [hlT,List.length_append] at hl4;omega
     have hsj:(l.2.take (j + 1)).flatMap (fun c=>C7 (N1 c)) = (l.2.take j).flatMap (fun c=>C7 (N1 c)) ++ C7 [W0,c.name,Lib.itoa c.parent]:=hsj
     unfold N1 at hln hlb
     have hw3:=d5 (L0 ++ ((l.2.take j).flatMap fun c=>C7 (N1 c))) (C7 [W0,c.name,Lib.itoa c.parent]) (by simp only [List.length_append] at hpl ⊢;omega)
     have hX:L0 ++ ((l.2.take j).flatMap fun c=>C7 (N1 c)) ++ C7 [W0,c.name,Lib.itoa c.parent] = L0 ++ ((l.2.take (j + 1)).flatMap fun c=>C7 (N1 c)):=by rw [hsj,List.append_assoc]
     generalize Lib.itoa c.parent = ip at *
     generalize C7 [W0,c.name,ip] = N at *
     generalize L0 ++ ((l.2.take j).flatMap fun c=>C7 (N1 c)) = X at *
     repeat' ((first | (refine G2 9 ?_;refine K5 (id:=9) (σ':=⟨[(1, .ref 0 0),(3, .ref 1 0),(14, .sl 2 (s.lists.map D3)),(15, .i s.lists.length),(16, .i (0:Nat)),(26, .sl 2 (l.2.map cA)),(27, .i l.2.length),(28, .i j),(7, .iptr (cA c))],4,(0,some (.box (sL s))) :: bU 1 3 (X)⟩) (B0 h0 rfl ⟨rfl,rfl,rfl,rfl,rfl,rfl,rfl,rfl,rfl,trivial⟩ ⟨rfl,rfl,⟨_,rfl⟩,trivial⟩ rfl rfl rfl) ?_;refine G6 (id:=9) ⟨[(1, .ref 0 0),(3, .ref 1 0),(14, .sl 2 (s.lists.map D3)),(15, .i s.lists.length),(16, .i (0:Nat)),(26, .sl 2 (l.2.map cA)),(27, .i l.2.length),(28, .i j)],4,(0,some (.box (sL s))) :: bU 1 3 (X ++ N)⟩ ?_ ?_) | (refine A3 (x:=c) hc (by omega) ?_) | refine B2 hit ?_ | refine B2 hln ?_ |refine A4 ?_|refine S1 ?_|refine Z1 ?_|refine Z2 ?_|(refine And.intro ?_ ?_<;>intro h<;>try first|(exfalso;omega)|exact absurd rfl h)|refine Z3 ?_|refine Z4 ?_|intro el hel hbB|intro el hel|intro ex|refine Z5 ?_|(refine A9 ?_ ?_;exact ⟨by kernel_rfl,by decide⟩)|refine A8 ?_ ?_|exact A7|refine A6 ?_ ?_|exact A5|(refine A0 ?_ ?_ ?_;kernel_rfl;kernel_rfl) | refine nc [1,3] [0,0] hw3 rfl rfl rfl ⟨rfl,rfl,trivial⟩ ?_) <;> (try (conv=>whnf)))
     all_goals first
      | (exfalso;omega)
      | exact B0 h0 rfl ⟨rfl,rfl,rfl,rfl,rfl,rfl,rfl,rfl,trivial⟩ ⟨rfl,rfl,⟨_,rfl⟩,trivial⟩ rfl rfl rfl
      | exact ⟨j + 1,by omega,by omega,B0 h0 rfl ⟨rfl,rfl,rfl,rfl,rfl,rfl,rfl,rfl,trivial⟩ ⟨rfl,congrArg (fun z:List UInt8=>C6.bx bB [.ref 1 0, .row 3 0 z.length]) hX.symm,⟨_,congrArg (fun z:List UInt8=>C6.row eB 1 _ (H5 z)) hX.symm⟩,trivial⟩ rfl rfl rfl⟩
    ·obtain rfl:j = l.2.length:=by omega
     rw [List.take_length]
     have hX:L0 ++ (l.2.flatMap fun c=>C7 (N1 c)) = (s.lists.take ((0:Nat) + 1)).flatMap Z6:=by rw [hsn,hlT] <;> simp only [List.append_assoc]
     repeat' ((first|refine A4 ?_|refine S1 ?_|refine Z1 ?_|refine Z2 ?_|(refine And.intro ?_ ?_<;>intro h<;>try first|(exfalso;omega)|exact absurd rfl h)|refine Z3 ?_|refine Z4 ?_|intro el hel hbB|intro el hel|intro ex|refine Z5 ?_|(refine A9 ?_ ?_;exact ⟨by kernel_rfl,by decide⟩)|refine A8 ?_ ?_|exact A7|refine A6 ?_ ?_|exact A5|(refine A0 ?_ ?_ ?_;kernel_rfl;kernel_rfl)) <;> (try (conv=>whnf)))
     all_goals first
      | (exfalso;omega)
      | exact ⟨((0:Nat) + 1,false),⟨by dsimp only;omega,fun h=>(by cases h),fun _=>Nat.succ_pos _⟩,by dsimp only;omega,B0 h0 rfl ⟨rfl,rfl,rfl,rfl,rfl,trivial⟩ ⟨rfl,congrArg (fun z:List UInt8=>C6.bx bB [.ref 1 0, .row 3 0 z.length]) hX.symm,⟨_,congrArg (fun z:List UInt8=>C6.row eB 1 _ (H5 z)) hX.symm⟩,trivial⟩ rfl rfl rfl⟩
  | false =>
    dsimp only
    repeat' ((first | (refine A3 (x:=l) hl (by omega) ?_) | refine B2 hline ?_ |refine A4 ?_|refine S1 ?_|refine Z1 ?_|refine Z2 ?_|(refine And.intro ?_ ?_<;>intro h<;>try first|(exfalso;omega)|exact absurd rfl h)|refine Z3 ?_|refine Z4 ?_|intro el hel hbB|intro el hel|intro ex|refine Z5 ?_|(refine A9 ?_ ?_;exact ⟨by kernel_rfl,by decide⟩)|refine A8 ?_ ?_|exact A7|refine A6 ?_ ?_|exact A5|(refine A0 ?_ ?_ ?_;kernel_rfl;kernel_rfl) | refine nc [1,3] [0,0] hw2 rfl rfl rfl ⟨rfl,rfl,trivial⟩ ?_) <;> (try (conv=>whnf)))
    refine C2 (ι:=Nat) (fun j=>⟨[(1, .ref 0 0),(3, .ref 1 0),(14, .sl 2 (s.lists.map D3)),(15, .i s.lists.length),(16, .i k),(26, .sl 2 (l.2.map cA)),(27, .i l.2.length),(28, .i j)],4,(0,some (.box (sL s))) :: bU 1 3 ((T ++ L0) ++ ((l.2.take j).flatMap fun c=>C7 (N1 c)))⟩) (fun j=>j ≤ l.2.length) (fun j=>l.2.length - j) 0 (Nat.zero_le _)
     (B0 h0 rfl ⟨rfl,rfl,rfl,rfl,rfl,rfl,rfl,rfl,trivial⟩ ⟨rfl,congrArg (fun z:List UInt8=>C6.bx bB [.ref 1 0, .row 3 0 z.length]) (show (T ++ L0) ++ _ = (T ++ L0) from List.append_nil _),⟨_,congrArg (fun z:List UInt8=>C6.row eB 1 _ (H5 z)) (show (T ++ L0) ++ _ = (T ++ L0) from List.append_nil _)⟩,trivial⟩ rfl rfl rfl) (fun j hjl=>?_)
    by_cases hjt:j < l.2.length
    ·obtain ⟨c,hc⟩:∃ c,l.2[j]? = some c:=⟨_,List.getElem?_eq_getElem hjt⟩
     have hcm:=List.mem_of_getElem? hc
     obtain ⟨_,p1,p2⟩:=hcp c hcm
     have hit:=G7 c.parent (by omega) (by omega)
     have hj3:=W8 (N1 c) 21 (hcw c hcm)
     have hn3:(N1 c).length = 3:=rfl
     have hln:=j8 (N1 c) (by omega) (by omega)
     have hlb:(C7 (N1 c)).length ≤ 67:=by unfold C7;rw [List.length_append];simp only [List.length_cons,List.length_nil];omega
     have hsj:=W2 (fun c=>C7 (N1 c)) l.2 j hc
     have hpj:=hpc j
     have hcT:(l.2.flatMap fun c=>C7 (N1 c)).length ≤ 4100:=by rw [hlT,List.length_append] at hl4;omega
     have hsj:(l.2.take (j + 1)).flatMap (fun c=>C7 (N1 c)) = (l.2.take j).flatMap (fun c=>C7 (N1 c)) ++ C7 [W0,c.name,Lib.itoa c.parent]:=hsj
     unfold N1 at hln hlb
     have hw3:=d5 ((T ++ L0) ++ ((l.2.take j).flatMap fun c=>C7 (N1 c))) (C7 [W0,c.name,Lib.itoa c.parent]) (by simp only [List.length_append] at hpl ⊢;omega)
     have hX:(T ++ L0) ++ ((l.2.take j).flatMap fun c=>C7 (N1 c)) ++ C7 [W0,c.name,Lib.itoa c.parent] = (T ++ L0) ++ ((l.2.take (j + 1)).flatMap fun c=>C7 (N1 c)):=by rw [hsj,List.append_assoc]
     generalize Lib.itoa c.parent = ip at *
     generalize C7 [W0,c.name,ip] = N at *
     generalize (T ++ L0) ++ ((l.2.take j).flatMap fun c=>C7 (N1 c)) = X at *
     repeat' ((first | (refine G2 9 ?_;refine K5 (id:=9) (σ':=⟨[(1, .ref 0 0),(3, .ref 1 0),(14, .sl 2 (s.lists.map D3)),(15, .i s.lists.length),(16, .i k),(26, .sl 2 (l.2.map cA)),(27, .i l.2.length),(28, .i j),(7, .iptr (cA c))],4,(0,some (.box (sL s))) :: bU 1 3 (X)⟩) (B0 h0 rfl ⟨rfl,rfl,rfl,rfl,rfl,rfl,rfl,rfl,rfl,trivial⟩ ⟨rfl,rfl,⟨_,rfl⟩,trivial⟩ rfl rfl rfl) ?_;refine G6 (id:=9) ⟨[(1, .ref 0 0),(3, .ref 1 0),(14, .sl 2 (s.lists.map D3)),(15, .i s.lists.length),(16, .i k),(26, .sl 2 (l.2.map cA)),(27, .i l.2.length),(28, .i j)],4,(0,some (.box (sL s))) :: bU 1 3 (X ++ N)⟩ ?_ ?_) | (refine A3 (x:=c) hc (by omega) ?_) | refine B2 hit ?_ | refine B2 hln ?_ |refine A4 ?_|refine S1 ?_|refine Z1 ?_|refine Z2 ?_|(refine And.intro ?_ ?_<;>intro h<;>try first|(exfalso;omega)|exact absurd rfl h)|refine Z3 ?_|refine Z4 ?_|intro el hel hbB|intro el hel|intro ex|refine Z5 ?_|(refine A9 ?_ ?_;exact ⟨by kernel_rfl,by decide⟩)|refine A8 ?_ ?_|exact A7|refine A6 ?_ ?_|exact A5|(refine A0 ?_ ?_ ?_;kernel_rfl;kernel_rfl) | refine nc [1,3] [0,0] hw3 rfl rfl rfl ⟨rfl,rfl,trivial⟩ ?_) <;> (try (conv=>whnf)))
     all_goals first
      | (exfalso;omega)
      | exact B0 h0 rfl ⟨rfl,rfl,rfl,rfl,rfl,rfl,rfl,rfl,trivial⟩ ⟨rfl,rfl,⟨_,rfl⟩,trivial⟩ rfl rfl rfl
      | exact ⟨j + 1,by omega,by omega,B0 h0 rfl ⟨rfl,rfl,rfl,rfl,rfl,rfl,rfl,rfl,trivial⟩ ⟨rfl,congrArg (fun z:List UInt8=>C6.bx bB [.ref 1 0, .row 3 0 z.length]) hX.symm,⟨_,congrArg (fun z:List UInt8=>C6.row eB 1 _ (H5 z)) hX.symm⟩,trivial⟩ rfl rfl rfl⟩
    ·obtain rfl:j = l.2.length:=by omega
     rw [List.take_length]
     have hX:(T ++ L0) ++ (l.2.flatMap fun c=>C7 (N1 c)) = (s.lists.take (k + 1)).flatMap Z6:=by rw [hsn,hlT] <;> simp only [List.append_assoc]
     repeat' ((first|refine A4 ?_|refine S1 ?_|refine Z1 ?_|refine Z2 ?_|(refine And.intro ?_ ?_<;>intro h<;>try first|(exfalso;omega)|exact absurd rfl h)|refine Z3 ?_|refine Z4 ?_|intro el hel hbB|intro el hel|intro ex|refine Z5 ?_|(refine A9 ?_ ?_;exact ⟨by kernel_rfl,by decide⟩)|refine A8 ?_ ?_|exact A7|refine A6 ?_ ?_|exact A5|(refine A0 ?_ ?_ ?_;kernel_rfl;kernel_rfl)) <;> (try (conv=>whnf)))
     all_goals first
      | (exfalso;omega)
      | exact ⟨(k + 1,false),⟨by dsimp only;omega,fun h=>(by cases h),fun _=>Nat.succ_pos _⟩,by dsimp only;omega,B0 h0 rfl ⟨rfl,rfl,rfl,rfl,rfl,trivial⟩ ⟨rfl,congrArg (fun z:List UInt8=>C6.bx bB [.ref 1 0, .row 3 0 z.length]) hX.symm,⟨_,congrArg (fun z:List UInt8=>C6.row eB 1 _ (H5 z)) hX.symm⟩,trivial⟩ rfl rfl rfl⟩
 ·obtain rfl:k = s.lists.length:=by omega
  have hcol:∀ c ∈ s.cols,_:=fun c hc=>Gd hr hc
  have hcb:∀ c ∈ s.cols,_:=fun c hc=>Cu hr hc
  have hknd:∀ (k:Nat) (c:C5),s.cols[k]? = some c → (c.kind = 1 ∧ k = 0) ∨ (c.kind = 2 ∧ k ≠ 0) ∨ (c.kind = 3 ∧ k ≠ 0):=fun k c hc=>PM hr hc
  have hne:=Fa hr
  have hH:f = true → s.lists.flatMap Z6 = []:=fun h=>by rw [List.eq_nil_of_length_eq_zero (hf1 h)];rfl
  have hpc:=Z8 (fun c=>C7 (D9 c)) s.cols
  have hT:AE s = s.lists.flatMap Z6 ++ s.cols.flatMap fun c=>C7 (D9 c):=rfl
  have hTl:=hbd
  rw [hT,List.length_append] at hTl
  rw [hT]
  rw [List.take_length]
  clear hls hf1 hf2 q3 q4 q5 hbd hT hk
  generalize s.lists.flatMap Z6 = H at *
  cases f with
  | true =>
    have hH:=hH rfl
    subst hH
    dsimp only
    repeat' ((first|refine A4 ?_|refine S1 ?_|refine Z1 ?_|refine Z2 ?_|(refine And.intro ?_ ?_<;>intro h<;>try first|(exfalso;omega)|exact absurd rfl h)|refine Z3 ?_|refine Z4 ?_|intro el hel hbB|intro el hel|intro ex|refine Z5 ?_|(refine A9 ?_ ?_;exact ⟨by kernel_rfl,by decide⟩)|refine A8 ?_ ?_|exact A7|refine A6 ?_ ?_|exact A5|(refine A0 ?_ ?_ ?_;kernel_rfl;kernel_rfl)) <;> (try (conv=>whnf)))
    refine C2 (ι:=Nat × Bool) (fun x=>match x.2 with
     | true=>⟨[(1, .ref 0 0),(3, .ref 1 0),(43, .sl 7 (s.cols.map C0)),(44, .i s.cols.length),(45, .i x.1)],2,[(0,some (.box (sL s))),(1,some PL)]⟩
     | false=>⟨[(1, .ref 0 0),(3, .ref 1 0),(43, .sl 7 (s.cols.map C0)),(44, .i s.cols.length),(45, .i x.1)],4,(0,some (.box (sL s))) :: bU 1 3 ([] ++ ((s.cols.take x.1).flatMap fun c=>C7 (D9 c)))⟩)
     (fun x=>x.1 ≤ s.cols.length ∧ (x.2 = true → x.1 = 0) ∧ (x.2 = false → 0 < x.1)) (fun x=>s.cols.length - x.1) (0,true) ⟨Nat.zero_le _,fun _=>rfl,fun h=>by cases h⟩ (B0 h0 rfl ⟨rfl,rfl,rfl,rfl,rfl,trivial⟩ ⟨rfl,rfl,trivial⟩ rfl rfl rfl) (fun x hI=>?_)
    obtain ⟨k,f⟩:=x
    obtain ⟨hk,hf1,hf2⟩:=hI
    dsimp only at hk hf1 hf2
    by_cases hlt:k < s.cols.length
    ·obtain ⟨c,hc⟩:∃ c,s.cols[k]? = some c:=⟨_,List.getElem?_eq_getElem hlt⟩
     have hcm:=List.mem_of_getElem? hc
     obtain ⟨w1,w2⟩:=hcol c hcm
     obtain ⟨b1,b2,b3⟩:=hcb c hcm
     have hkc:=hknd k c hc
     have hj:=W8 (D9 c) 21 w1
     have hj2:=Nat.mul_le_mul_right 22 w2
     have hline:=j8 (D9 c) (by omega) (by omega)
     have hN:=U5 w1
     have hNn:=BT (D9 c)
     have hsn:=W2 (fun c=>C7 (D9 c)) s.cols k hc
     have hpk:=hpc k
     have hsn:[] ++ ((s.cols.take (k + 1)).flatMap fun c=>C7 (D9 c)) = [] ++ ((s.cols.take k).flatMap fun c=>C7 (D9 c)) ++ C7 (D9 c):=by rw [List.append_assoc];exact congrArg ([] ++ ·) hsn
     have hNl:(C7 (D9 c)).length ≤ 199:=by omega
     clear hcol hcb hknd hj hj2 hN w1 w2
     have hXl:([] ++ ((s.cols.take k).flatMap fun c=>C7 (D9 c))).length ≤ 26300:=by simp only [List.length_append,List.length_nil] at hTl ⊢;omega
     cases f with
     | true =>
       have hk0:=hf1 rfl
       subst hk0
       have hk1:c.kind = 1:=by omega
       clear hkc hpk
       dsimp only
       rw [show [] ++ (((s.cols.take 0).flatMap fun c=>C7 (D9 c)):List UInt8) = [] from rfl,List.nil_append] at hsn
       have hcw:D9 c = [U6,c.name]:=by unfold D9;rw [if_pos hk1]
       rw [hcw] at hline hsn hNl hNn
       clear hcw
       generalize C7 [U6,c.name] = N at *
       rw [List.nil_append] at hsn
       have hw:=Gc N (by omega)
       repeat' ((first | (refine A3 (x:=c) hc (by omega) ?_) | refine B2 hline ?_ |refine A4 ?_|refine S1 ?_|refine Z1 ?_|refine Z2 ?_|(refine And.intro ?_ ?_<;>intro h<;>try first|(exfalso;omega)|exact absurd rfl h)|refine Z3 ?_|refine Z4 ?_|intro el hel hbB|intro el hel|intro ex|refine Z5 ?_|(refine A9 ?_ ?_;exact ⟨by kernel_rfl,by decide⟩)|refine A8 ?_ ?_|exact A7|refine A6 ?_ ?_|exact A5|(refine A0 ?_ ?_ ?_;kernel_rfl;kernel_rfl) | refine nc [1] [0] hw rfl rfl rfl ⟨rfl,trivial⟩ ?_) <;> (try (conv=>whnf)))
       all_goals first
        | (exfalso;omega)
        | exact B0 h0 rfl ⟨rfl,rfl,rfl,rfl,rfl,trivial⟩ ⟨rfl,rfl,⟨_,rfl⟩,trivial⟩ rfl rfl rfl
        | exact ⟨((0:Nat) + 1,false),⟨by dsimp only;omega,fun h=>(by cases h),fun _=>Nat.succ_pos _⟩,by first | omega | (dsimp only;omega),B0 h0 rfl ⟨rfl,rfl,rfl,rfl,rfl,trivial⟩ ⟨rfl,congrArg (fun z:List UInt8=>C6.bx bB [.ref 1 0, .row 3 0 z.length]) hsn,⟨_,congrArg (fun z:List UInt8=>C6.row eB 1 _ (H5 z)) hsn⟩,trivial⟩ rfl rfl rfl⟩
     | false =>
       dsimp only
       generalize [] ++ ((s.cols.take k).flatMap fun c=>C7 (D9 c)) = X at *
       rcases hkc with ⟨hk1,_⟩ | ⟨hk2,_⟩ | ⟨hk3,_⟩
       ·have hcw:D9 c = [U6,c.name]:=by unfold D9;rw [if_pos hk1]
        rw [hcw] at hline hsn hNl hNn
        clear hcw
        generalize C7 [U6,c.name] = N at *
        have hw:=d5 X N (by omega)
        repeat' ((first | (refine A3 (x:=c) hc (by omega) ?_) | refine B2 hline ?_ |refine A4 ?_|refine S1 ?_|refine Z1 ?_|refine Z2 ?_|(refine And.intro ?_ ?_<;>intro h<;>try first|(exfalso;omega)|exact absurd rfl h)|refine Z3 ?_|refine Z4 ?_|intro el hel hbB|intro el hel|intro ex|refine Z5 ?_|(refine A9 ?_ ?_;exact ⟨by kernel_rfl,by decide⟩)|refine A8 ?_ ?_|exact A7|refine A6 ?_ ?_|exact A5|(refine A0 ?_ ?_ ?_;kernel_rfl;kernel_rfl) | refine nc [1,3] [0,0] hw rfl rfl rfl ⟨rfl,rfl,trivial⟩ ?_) <;> (try (conv=>whnf)))
        all_goals first
         | (exfalso;omega)
         | exact B0 h0 rfl ⟨rfl,rfl,rfl,rfl,rfl,trivial⟩ ⟨rfl,rfl,⟨_,rfl⟩,trivial⟩ rfl rfl rfl
         | exact ⟨(k + 1,false),⟨by dsimp only;omega,fun h=>(by cases h),fun _=>Nat.succ_pos _⟩,by first | omega | (dsimp only;omega),B0 h0 rfl ⟨rfl,rfl,rfl,rfl,rfl,trivial⟩ ⟨rfl,congrArg (fun z:List UInt8=>C6.bx bB [.ref 1 0, .row 3 0 z.length]) hsn,⟨_,congrArg (fun z:List UInt8=>C6.row eB 1 _ (H5 z)) hsn⟩,trivial⟩ rfl rfl rfl⟩
       ·have hcw:D9 c = [O2,c.name,Lib.itoa c.lst]:=by unfold D9;rw [if_neg (by omega),if_pos hk2]
        have hls:=b2 hk2
        have hit:=G7 c.lst (by omega) (by omega)
        rw [hcw] at hline hsn hNl hNn
        clear hcw
        generalize Lib.itoa c.lst = ip at *
        generalize C7 [O2,c.name,ip] = N at *
        have hw:=d5 X N (by omega)
        repeat' ((first | (refine G2 28 ?_;refine K5 (id:=28) (σ':=⟨[(1, .ref 0 0),(3, .ref 1 0),(43, .sl 7 (s.cols.map C0)),(44, .i s.cols.length),(45, .i k),(9, .iptr (C0 c))],4,(0,some (.box (sL s))) :: bU 1 3 (X)⟩) (B0 h0 rfl ⟨rfl,rfl,rfl,rfl,rfl,rfl,trivial⟩ ⟨rfl,rfl,⟨_,rfl⟩,trivial⟩ rfl rfl rfl) ?_;refine G6 (id:=28) ⟨[(1, .ref 0 0),(3, .ref 1 0),(43, .sl 7 (s.cols.map C0)),(44, .i s.cols.length),(45, .i k)],4,(0,some (.box (sL s))) :: bU 1 3 (X ++ N)⟩ ?_ ?_) | (refine A3 (x:=c) hc (by omega) ?_) | refine B2 hit ?_ | refine B2 hline ?_ |refine A4 ?_|refine S1 ?_|refine Z1 ?_|refine Z2 ?_|(refine And.intro ?_ ?_<;>intro h<;>try first|(exfalso;omega)|exact absurd rfl h)|refine Z3 ?_|refine Z4 ?_|intro el hel hbB|intro el hel|intro ex|refine Z5 ?_|(refine A9 ?_ ?_;exact ⟨by kernel_rfl,by decide⟩)|refine A8 ?_ ?_|exact A7|refine A6 ?_ ?_|exact A5|(refine A0 ?_ ?_ ?_;kernel_rfl;kernel_rfl) | refine nc [1,3] [0,0] hw rfl rfl rfl ⟨rfl,rfl,trivial⟩ ?_) <;> (try (conv=>whnf)))
        all_goals first
         | (exfalso;omega)
         | exact B0 h0 rfl ⟨rfl,rfl,rfl,rfl,rfl,trivial⟩ ⟨rfl,rfl,⟨_,rfl⟩,trivial⟩ rfl rfl rfl
         | exact ⟨(k + 1,false),⟨by dsimp only;omega,fun h=>(by cases h),fun _=>Nat.succ_pos _⟩,by first | omega | (dsimp only;omega),B0 h0 rfl ⟨rfl,rfl,rfl,rfl,rfl,trivial⟩ ⟨rfl,congrArg (fun z:List UInt8=>C6.bx bB [.ref 1 0, .row 3 0 z.length]) hsn,⟨_,congrArg (fun z:List UInt8=>C6.row eB 1 _ (H5 z)) hsn⟩,trivial⟩ rfl rfl rfl⟩
       ·have hcw:D9 c = Bm c:=by unfold D9;rw [if_neg (by omega),if_neg (by omega)]
        rw [hcw] at hline hsn hNl hNn
        clear hcw
        obtain ⟨m1,m2,m3,m4,m5,m6⟩:=w8 (b3 (by omega) (by omega))
        have hwb:=CG m6
        have hi1:=G7 c.low (by omega) (by omega)
        have hi2:=G7 c.high (by omega) (by omega)
        have hmw:Bm c = [L4,c.name,Lib.itoa c.low,Lib.itoa c.high,if c.opt = true then H2 else G8] ++ c.widths.map Lib.itoa:=rfl
        generalize Lib.itoa c.low = i1 at *
        generalize Lib.itoa c.high = i2 at *
        generalize Bm c = W at *
        generalize C7 W = N at *
        have hw:=d5 X N (by omega)
        by_cases ho:c.opt = true
        ·rw [if_pos ho] at hmw
         repeat' ((first | (refine G2 16 ?_;refine K5 (id:=16) (σ':=⟨[(1, .ref 0 0),(3, .ref 1 0),(43, .sl 7 (s.cols.map C0)),(44, .i s.cols.length),(45, .i k),(9, .iptr (C0 c))],4,(0,some (.box (sL s))) :: bU 1 3 (X)⟩) (B0 h0 rfl ⟨rfl,rfl,rfl,rfl,rfl,rfl,trivial⟩ ⟨rfl,rfl,⟨_,rfl⟩,trivial⟩ rfl rfl rfl) ?_;refine G6 (id:=16) ⟨[(1, .ref 0 0),(3, .ref 1 0),(43, .sl 7 (s.cols.map C0)),(44, .i s.cols.length),(45, .i k),(9, .iptr (C0 c)),(10, .row 4 0 5)],5,(0,some (.box (sL s))) :: (4,some (.row m9 1 0 ([L4,c.name,i1,i2,G8].map C1))) :: bU 1 3 (X)⟩ ?_ ?_) | (refine BN ?_ ?_ ?_;kernel_rfl;kernel_rfl) | refine Z0 (T:=45) rfl ?_ | (refine A3 (x:=c) hc (by omega) ?_) | (refine FO (x:=[.str G8]) rfl rfl ?_) | refine B2 hi1 ?_ | refine B2 hi2 ?_ |refine A4 ?_|refine S1 ?_|refine Z1 ?_|refine Z2 ?_|(refine And.intro ?_ ?_<;>intro h<;>try first|(exfalso;omega)|exact absurd rfl h)|refine Z3 ?_|refine Z4 ?_|intro el hel hbB|intro el hel|intro ex|refine Z5 ?_|(refine A9 ?_ ?_;exact ⟨by kernel_rfl,by decide⟩)|refine A8 ?_ ?_|exact A7|refine A6 ?_ ?_|exact A5|(refine A0 ?_ ?_ ?_;kernel_rfl;kernel_rfl) | refine nc [1,3] [0,0] hw rfl rfl rfl ⟨rfl,rfl,trivial⟩ ?_) <;> (try (conv=>whnf)))
         all_goals first
          | (exfalso;omega)
          | exact absurd (ho.symm.trans h) (by decide)
          | exact absurd h ho
          | exact B0 h0 rfl ⟨rfl,rfl,rfl,rfl,rfl,rfl,rfl,trivial⟩ ⟨rfl,⟨_,rfl⟩,rfl,⟨_,rfl⟩,trivial⟩ rfl rfl rfl
          | skip
         refine C2 (ι:=Nat) (fun j=>⟨[(1, .ref 0 0),(3, .ref 1 0),(43, .sl 7 (s.cols.map C0)),(44, .i s.cols.length),(45, .i k),(10, .row 4 0 (5 + j)),(65, .sl 1 (c.widths.map wA)),(66, .i c.widths.length),(67, .i j)],5,(0,some (.box (sL s))) :: (4,some (.row m9 1 0 (([L4,c.name,i1,i2,H2] ++ (c.widths.take j).map Lib.itoa).map C1))) :: bU 1 3 (X)⟩) (fun j=>j ≤ c.widths.length) (fun j=>c.widths.length - j) 0 (Nat.zero_le _) (B0 h0 rfl ⟨rfl,rfl,rfl,rfl,rfl,rfl,rfl,rfl,rfl,trivial⟩ ⟨rfl,⟨_,rfl⟩,rfl,⟨_,rfl⟩,trivial⟩ rfl rfl rfl) (fun j hjl=>?_)
         by_cases hjt:j < c.widths.length
         ·obtain ⟨w,hww⟩:∃ w,c.widths[j]? = some w:=⟨_,List.getElem?_eq_getElem hjt⟩
          have hwb:=hwb w (List.mem_of_getElem? hww)
          have hit:=G7 w (by omega) (by omega)
          have htk:(c.widths.take (j + 1)).map Lib.itoa = (c.widths.take j).map Lib.itoa ++ [Lib.itoa w]:=by rw [Q2 hww,List.map_append];rfl
          have hln:((c.widths.take j).map Lib.itoa).length = j:=by rw [List.length_map,List.length_take];omega
          generalize Lib.itoa w = iw at *
          generalize (c.widths.take j).map Lib.itoa = V at *
          repeat' ((first | (refine A3 (x:=w) hww (by omega) ?_) | refine B2 hit ?_ |refine A4 ?_|refine S1 ?_|refine Z1 ?_|refine Z2 ?_|(refine And.intro ?_ ?_<;>intro h<;>try first|(exfalso;omega)|exact absurd rfl h)|refine Z3 ?_|refine Z4 ?_|intro el hel hbB|intro el hel|intro ex|refine Z5 ?_|(refine A9 ?_ ?_;exact ⟨by kernel_rfl,by decide⟩)|refine A8 ?_ ?_|exact A7|refine A6 ?_ ?_|exact A5|(refine A0 ?_ ?_ ?_;kernel_rfl;kernel_rfl)) <;> (try (conv=>whnf)))
          all_goals first
           | (exfalso;omega)
           | exact ⟨j + 1,by omega,by omega,B0 h0 rfl ⟨rfl,rfl,rfl,rfl,rfl,rfl,rfl,rfl,rfl,trivial⟩ ⟨rfl,⟨_,congrArg (C6.row m9 1 _) (by rw [htk, ← List.append_assoc,List.map_append];rfl)⟩,rfl,⟨_,rfl⟩,trivial⟩ rfl rfl rfl⟩
         ·obtain rfl:j = c.widths.length:=by omega
          rw [List.take_length]
          rw [← hmw]
          repeat' ((first | refine B2 hline ?_ |refine A4 ?_|refine S1 ?_|refine Z1 ?_|refine Z2 ?_|(refine And.intro ?_ ?_<;>intro h<;>try first|(exfalso;omega)|exact absurd rfl h)|refine Z3 ?_|refine Z4 ?_|intro el hel hbB|intro el hel|intro ex|refine Z5 ?_|(refine A9 ?_ ?_;exact ⟨by kernel_rfl,by decide⟩)|refine A8 ?_ ?_|exact A7|refine A6 ?_ ?_|exact A5|(refine A0 ?_ ?_ ?_;kernel_rfl;kernel_rfl) | refine nc [1,3] [0,0] hw rfl rfl rfl ⟨rfl,rfl,trivial⟩ ?_ | refine P8 4 ?_) <;> (try (conv=>whnf)))
          all_goals first
           | (exfalso;omega)
           | exact B0 h0 rfl ⟨rfl,rfl,rfl,rfl,rfl,trivial⟩ ⟨rfl,rfl,⟨_,rfl⟩,trivial⟩ rfl rfl rfl
           | exact ⟨(k + 1,false),⟨by dsimp only;omega,fun h=>(by cases h),fun _=>Nat.succ_pos _⟩,by first | omega | (dsimp only;omega),B0 h0 rfl ⟨rfl,rfl,rfl,rfl,rfl,trivial⟩ ⟨rfl,congrArg (fun z:List UInt8=>C6.bx bB [.ref 1 0, .row 3 0 z.length]) hsn,⟨_,congrArg (fun z:List UInt8=>C6.row eB 1 _ (H5 z)) hsn⟩,trivial⟩ rfl rfl rfl⟩
        ·rw [if_neg ho] at hmw
         repeat' ((first | (refine G2 16 ?_;refine K5 (id:=16) (σ':=⟨[(1, .ref 0 0),(3, .ref 1 0),(43, .sl 7 (s.cols.map C0)),(44, .i s.cols.length),(45, .i k),(9, .iptr (C0 c))],4,(0,some (.box (sL s))) :: bU 1 3 (X)⟩) (B0 h0 rfl ⟨rfl,rfl,rfl,rfl,rfl,rfl,trivial⟩ ⟨rfl,rfl,⟨_,rfl⟩,trivial⟩ rfl rfl rfl) ?_;refine G6 (id:=16) ⟨[(1, .ref 0 0),(3, .ref 1 0),(43, .sl 7 (s.cols.map C0)),(44, .i s.cols.length),(45, .i k),(9, .iptr (C0 c)),(10, .row 4 0 5)],5,(0,some (.box (sL s))) :: (4,some (.row m9 1 0 ([L4,c.name,i1,i2,G8].map C1))) :: bU 1 3 (X)⟩ ?_ ?_) | (refine BN ?_ ?_ ?_;kernel_rfl;kernel_rfl) | refine Z0 (T:=45) rfl ?_ | (refine A3 (x:=c) hc (by omega) ?_) | (refine FO (x:=[.str G8]) rfl rfl ?_) | refine B2 hi1 ?_ | refine B2 hi2 ?_ |refine A4 ?_|refine S1 ?_|refine Z1 ?_|refine Z2 ?_|(refine And.intro ?_ ?_<;>intro h<;>try first|(exfalso;omega)|exact absurd rfl h)|refine Z3 ?_|refine Z4 ?_|intro el hel hbB|intro el hel|intro ex|refine Z5 ?_|(refine A9 ?_ ?_;exact ⟨by kernel_rfl,by decide⟩)|refine A8 ?_ ?_|exact A7|refine A6 ?_ ?_|exact A5|(refine A0 ?_ ?_ ?_;kernel_rfl;kernel_rfl) | refine nc [1,3] [0,0] hw rfl rfl rfl ⟨rfl,rfl,trivial⟩ ?_) <;> (try (conv=>whnf)))
         all_goals first
          | (exfalso;omega)
          | exact absurd (ho.symm.trans h) (by decide)
          | exact absurd h ho
          | exact B0 h0 rfl ⟨rfl,rfl,rfl,rfl,rfl,rfl,rfl,trivial⟩ ⟨rfl,⟨_,rfl⟩,rfl,⟨_,rfl⟩,trivial⟩ rfl rfl rfl
          | skip
         refine C2 (ι:=Nat) (fun j=>⟨[(1, .ref 0 0),(3, .ref 1 0),(43, .sl 7 (s.cols.map C0)),(44, .i s.cols.length),(45, .i k),(10, .row 4 0 (5 + j)),(65, .sl 1 (c.widths.map wA)),(66, .i c.widths.length),(67, .i j)],5,(0,some (.box (sL s))) :: (4,some (.row m9 1 0 (([L4,c.name,i1,i2,G8] ++ (c.widths.take j).map Lib.itoa).map C1))) :: bU 1 3 (X)⟩) (fun j=>j ≤ c.widths.length) (fun j=>c.widths.length - j) 0 (Nat.zero_le _) (B0 h0 rfl ⟨rfl,rfl,rfl,rfl,rfl,rfl,rfl,rfl,rfl,trivial⟩ ⟨rfl,⟨_,rfl⟩,rfl,⟨_,rfl⟩,trivial⟩ rfl rfl rfl) (fun j hjl=>?_)
         by_cases hjt:j < c.widths.length
         ·obtain ⟨w,hww⟩:∃ w,c.widths[j]? = some w:=⟨_,List.getElem?_eq_getElem hjt⟩
          have hwb:=hwb w (List.mem_of_getElem? hww)
          have hit:=G7 w (by omega) (by omega)
          have htk:(c.widths.take (j + 1)).map Lib.itoa = (c.widths.take j).map Lib.itoa ++ [Lib.itoa w]:=by rw [Q2 hww,List.map_append];rfl
          have hln:((c.widths.take j).map Lib.itoa).length = j:=by rw [List.length_map,List.length_take];omega
          generalize Lib.itoa w = iw at *
          generalize (c.widths.take j).map Lib.itoa = V at *
          repeat' ((first | (refine A3 (x:=w) hww (by omega) ?_) | refine B2 hit ?_ |refine A4 ?_|refine S1 ?_|refine Z1 ?_|refine Z2 ?_|(refine And.intro ?_ ?_<;>intro h<;>try first|(exfalso;omega)|exact absurd rfl h)|refine Z3 ?_|refine Z4 ?_|intro el hel hbB|intro el hel|intro ex|refine Z5 ?_|(refine A9 ?_ ?_;exact ⟨by kernel_rfl,by decide⟩)|refine A8 ?_ ?_|exact A7|refine A6 ?_ ?_|exact A5|(refine A0 ?_ ?_ ?_;kernel_rfl;kernel_rfl)) <;> (try (conv=>whnf)))
          all_goals first
           | (exfalso;omega)
           | exact ⟨j + 1,by omega,by omega,B0 h0 rfl ⟨rfl,rfl,rfl,rfl,rfl,rfl,rfl,rfl,rfl,trivial⟩ ⟨rfl,⟨_,congrArg (C6.row m9 1 _) (by rw [htk, ← List.append_assoc,List.map_append];rfl)⟩,rfl,⟨_,rfl⟩,trivial⟩ rfl rfl rfl⟩
         ·obtain rfl:j = c.widths.length:=by omega
          rw [List.take_length]
          rw [← hmw]
          repeat' ((first | refine B2 hline ?_ |refine A4 ?_|refine S1 ?_|refine Z1 ?_|refine Z2 ?_|(refine And.intro ?_ ?_<;>intro h<;>try first|(exfalso;omega)|exact absurd rfl h)|refine Z3 ?_|refine Z4 ?_|intro el hel hbB|intro el hel|intro ex|refine Z5 ?_|(refine A9 ?_ ?_;exact ⟨by kernel_rfl,by decide⟩)|refine A8 ?_ ?_|exact A7|refine A6 ?_ ?_|exact A5|(refine A0 ?_ ?_ ?_;kernel_rfl;kernel_rfl) | refine nc [1,3] [0,0] hw rfl rfl rfl ⟨rfl,rfl,trivial⟩ ?_ | refine P8 4 ?_) <;> (try (conv=>whnf)))
          all_goals first
           | (exfalso;omega)
           | exact B0 h0 rfl ⟨rfl,rfl,rfl,rfl,rfl,trivial⟩ ⟨rfl,rfl,⟨_,rfl⟩,trivial⟩ rfl rfl rfl
           | exact ⟨(k + 1,false),⟨by dsimp only;omega,fun h=>(by cases h),fun _=>Nat.succ_pos _⟩,by first | omega | (dsimp only;omega),B0 h0 rfl ⟨rfl,rfl,rfl,rfl,rfl,trivial⟩ ⟨rfl,congrArg (fun z:List UInt8=>C6.bx bB [.ref 1 0, .row 3 0 z.length]) hsn,⟨_,congrArg (fun z:List UInt8=>C6.row eB 1 _ (H5 z)) hsn⟩,trivial⟩ rfl rfl rfl⟩
    ·obtain rfl:k = s.cols.length:=by omega
     cases f with
     | true=>exact absurd (List.eq_nil_of_length_eq_zero (hf1 rfl)) hne
     | false =>
       dsimp only
       rw [List.take_length]
       have hTn:([] ++ s.cols.flatMap fun c=>C7 (D9 c)) ≠ []:=MJ (by
        intro e
        cases hcs:s.cols with
        | nil=>exact hne hcs
        | cons c r =>
          rw [hcs,List.flatMap_cons] at e
          exact BT _ (List.append_eq_nil_iff.1 e).1)
       generalize [] ++ (s.cols.flatMap fun c=>C7 (D9 c)) = T at *
       have hs:=RT T hTn
       repeat' ((first|refine A4 ?_|refine S1 ?_|refine Z1 ?_|refine Z2 ?_|(refine And.intro ?_ ?_<;>intro h<;>try first|(exfalso;omega)|exact absurd rfl h)|refine Z3 ?_|refine Z4 ?_|intro el hel hbB|intro el hel|intro ex|refine Z5 ?_|(refine A9 ?_ ?_;exact ⟨by kernel_rfl,by decide⟩)|refine A8 ?_ ?_|exact A7|refine A6 ?_ ?_|exact A5|(refine A0 ?_ ?_ ?_;kernel_rfl;kernel_rfl) | refine nc [1,3] [0,0] hs rfl rfl rfl ⟨rfl,rfl,trivial⟩ ?_) <;> (try (conv=>whnf)))
       all_goals first
        | (exfalso;omega)
        | exact B5 rfl rfl
  | false =>
    clear hH
    dsimp only
    repeat' ((first|refine A4 ?_|refine S1 ?_|refine Z1 ?_|refine Z2 ?_|(refine And.intro ?_ ?_<;>intro h<;>try first|(exfalso;omega)|exact absurd rfl h)|refine Z3 ?_|refine Z4 ?_|intro el hel hbB|intro el hel|intro ex|refine Z5 ?_|(refine A9 ?_ ?_;exact ⟨by kernel_rfl,by decide⟩)|refine A8 ?_ ?_|exact A7|refine A6 ?_ ?_|exact A5|(refine A0 ?_ ?_ ?_;kernel_rfl;kernel_rfl)) <;> (try (conv=>whnf)))
    refine C2 (ι:=Nat) (fun k=>⟨[(1, .ref 0 0),(3, .ref 1 0),(43, .sl 7 (s.cols.map C0)),(44, .i s.cols.length),(45, .i k)],4,(0,some (.box (sL s))) :: bU 1 3 (H ++ ((s.cols.take k).flatMap fun c=>C7 (D9 c)))⟩) (fun k=>k ≤ s.cols.length) (fun k=>s.cols.length - k) 0 (Nat.zero_le _)
     (B0 h0 rfl ⟨rfl,rfl,rfl,rfl,rfl,trivial⟩ ⟨rfl,congrArg (fun z:List UInt8=>C6.bx bB [.ref 1 0, .row 3 0 z.length]) (show H ++ _ = H from List.append_nil _),⟨_,congrArg (fun z:List UInt8=>C6.row eB 1 _ (H5 z)) (show H ++ _ = H from List.append_nil _)⟩,trivial⟩ rfl rfl rfl) (fun k hk=>?_)
    by_cases hlt:k < s.cols.length
    ·obtain ⟨c,hc⟩:∃ c,s.cols[k]? = some c:=⟨_,List.getElem?_eq_getElem hlt⟩
     have hcm:=List.mem_of_getElem? hc
     obtain ⟨w1,w2⟩:=hcol c hcm
     obtain ⟨b1,b2,b3⟩:=hcb c hcm
     have hkc:=hknd k c hc
     have hj:=W8 (D9 c) 21 w1
     have hj2:=Nat.mul_le_mul_right 22 w2
     have hline:=j8 (D9 c) (by omega) (by omega)
     have hN:=U5 w1
     have hNn:=BT (D9 c)
     have hsn:=W2 (fun c=>C7 (D9 c)) s.cols k hc
     have hpk:=hpc k
     have hsn:H ++ ((s.cols.take (k + 1)).flatMap fun c=>C7 (D9 c)) = H ++ ((s.cols.take k).flatMap fun c=>C7 (D9 c)) ++ C7 (D9 c):=by rw [List.append_assoc];exact congrArg (H ++ ·) hsn
     have hNl:(C7 (D9 c)).length ≤ 199:=by omega
     clear hcol hcb hknd hj hj2 hN w1 w2
     have hXl:(H ++ ((s.cols.take k).flatMap fun c=>C7 (D9 c))).length ≤ 26300:=by simp only [List.length_append,List.length_nil] at hTl ⊢;omega
     generalize H ++ ((s.cols.take k).flatMap fun c=>C7 (D9 c)) = X at *
     rcases hkc with ⟨hk1,_⟩ | ⟨hk2,_⟩ | ⟨hk3,_⟩
     ·have hcw:D9 c = [U6,c.name]:=by unfold D9;rw [if_pos hk1]
      rw [hcw] at hline hsn hNl hNn
      clear hcw
      generalize C7 [U6,c.name] = N at *
      have hw:=d5 X N (by omega)
      repeat' ((first | (refine A3 (x:=c) hc (by omega) ?_) | refine B2 hline ?_ |refine A4 ?_|refine S1 ?_|refine Z1 ?_|refine Z2 ?_|(refine And.intro ?_ ?_<;>intro h<;>try first|(exfalso;omega)|exact absurd rfl h)|refine Z3 ?_|refine Z4 ?_|intro el hel hbB|intro el hel|intro ex|refine Z5 ?_|(refine A9 ?_ ?_;exact ⟨by kernel_rfl,by decide⟩)|refine A8 ?_ ?_|exact A7|refine A6 ?_ ?_|exact A5|(refine A0 ?_ ?_ ?_;kernel_rfl;kernel_rfl) | refine nc [1,3] [0,0] hw rfl rfl rfl ⟨rfl,rfl,trivial⟩ ?_) <;> (try (conv=>whnf)))
      all_goals first
       | (exfalso;omega)
       | exact B0 h0 rfl ⟨rfl,rfl,rfl,rfl,rfl,trivial⟩ ⟨rfl,rfl,⟨_,rfl⟩,trivial⟩ rfl rfl rfl
       | exact ⟨k + 1,by omega,by first | omega | (dsimp only;omega),B0 h0 rfl ⟨rfl,rfl,rfl,rfl,rfl,trivial⟩ ⟨rfl,congrArg (fun z:List UInt8=>C6.bx bB [.ref 1 0, .row 3 0 z.length]) hsn,⟨_,congrArg (fun z:List UInt8=>C6.row eB 1 _ (H5 z)) hsn⟩,trivial⟩ rfl rfl rfl⟩
     ·have hcw:D9 c = [O2,c.name,Lib.itoa c.lst]:=by unfold D9;rw [if_neg (by omega),if_pos hk2]
      have hls:=b2 hk2
      have hit:=G7 c.lst (by omega) (by omega)
      rw [hcw] at hline hsn hNl hNn
      clear hcw
      generalize Lib.itoa c.lst = ip at *
      generalize C7 [O2,c.name,ip] = N at *
      have hw:=d5 X N (by omega)
      repeat' ((first | (refine G2 28 ?_;refine K5 (id:=28) (σ':=⟨[(1, .ref 0 0),(3, .ref 1 0),(43, .sl 7 (s.cols.map C0)),(44, .i s.cols.length),(45, .i k),(9, .iptr (C0 c))],4,(0,some (.box (sL s))) :: bU 1 3 (X)⟩) (B0 h0 rfl ⟨rfl,rfl,rfl,rfl,rfl,rfl,trivial⟩ ⟨rfl,rfl,⟨_,rfl⟩,trivial⟩ rfl rfl rfl) ?_;refine G6 (id:=28) ⟨[(1, .ref 0 0),(3, .ref 1 0),(43, .sl 7 (s.cols.map C0)),(44, .i s.cols.length),(45, .i k)],4,(0,some (.box (sL s))) :: bU 1 3 (X ++ N)⟩ ?_ ?_) | (refine A3 (x:=c) hc (by omega) ?_) | refine B2 hit ?_ | refine B2 hline ?_ |refine A4 ?_|refine S1 ?_|refine Z1 ?_|refine Z2 ?_|(refine And.intro ?_ ?_<;>intro h<;>try first|(exfalso;omega)|exact absurd rfl h)|refine Z3 ?_|refine Z4 ?_|intro el hel hbB|intro el hel|intro ex|refine Z5 ?_|(refine A9 ?_ ?_;exact ⟨by kernel_rfl,by decide⟩)|refine A8 ?_ ?_|exact A7|refine A6 ?_ ?_|exact A5|(refine A0 ?_ ?_ ?_;kernel_rfl;kernel_rfl) | refine nc [1,3] [0,0] hw rfl rfl rfl ⟨rfl,rfl,trivial⟩ ?_) <;> (try (conv=>whnf)))
      all_goals first
       | (exfalso;omega)
       | exact B0 h0 rfl ⟨rfl,rfl,rfl,rfl,rfl,trivial⟩ ⟨rfl,rfl,⟨_,rfl⟩,trivial⟩ rfl rfl rfl
       | exact ⟨k + 1,by omega,by first | omega | (dsimp only;omega),B0 h0 rfl ⟨rfl,rfl,rfl,rfl,rfl,trivial⟩ ⟨rfl,congrArg (fun z:List UInt8=>C6.bx bB [.ref 1 0, .row 3 0 z.length]) hsn,⟨_,congrArg (fun z:List UInt8=>C6.row eB 1 _ (H5 z)) hsn⟩,trivial⟩ rfl rfl rfl⟩
     ·have hcw:D9 c = Bm c:=by unfold D9;rw [if_neg (by omega),if_neg (by omega)]
      rw [hcw] at hline hsn hNl hNn
      clear hcw
      obtain ⟨m1,m2,m3,m4,m5,m6⟩:=w8 (b3 (by omega) (by omega))
      have hwb:=CG m6
      have hi1:=G7 c.low (by omega) (by omega)
      have hi2:=G7 c.high (by omega) (by omega)
      have hmw:Bm c = [L4,c.name,Lib.itoa c.low,Lib.itoa c.high,if c.opt = true then H2 else G8] ++ c.widths.map Lib.itoa:=rfl
      generalize Lib.itoa c.low = i1 at *
      generalize Lib.itoa c.high = i2 at *
      generalize Bm c = W at *
      generalize C7 W = N at *
      have hw:=d5 X N (by omega)
      by_cases ho:c.opt = true
      ·rw [if_pos ho] at hmw
       repeat' ((first | (refine G2 16 ?_;refine K5 (id:=16) (σ':=⟨[(1, .ref 0 0),(3, .ref 1 0),(43, .sl 7 (s.cols.map C0)),(44, .i s.cols.length),(45, .i k),(9, .iptr (C0 c))],4,(0,some (.box (sL s))) :: bU 1 3 (X)⟩) (B0 h0 rfl ⟨rfl,rfl,rfl,rfl,rfl,rfl,trivial⟩ ⟨rfl,rfl,⟨_,rfl⟩,trivial⟩ rfl rfl rfl) ?_;refine G6 (id:=16) ⟨[(1, .ref 0 0),(3, .ref 1 0),(43, .sl 7 (s.cols.map C0)),(44, .i s.cols.length),(45, .i k),(9, .iptr (C0 c)),(10, .row 4 0 5)],5,(0,some (.box (sL s))) :: (4,some (.row m9 1 0 ([L4,c.name,i1,i2,G8].map C1))) :: bU 1 3 (X)⟩ ?_ ?_) | (refine BN ?_ ?_ ?_;kernel_rfl;kernel_rfl) | refine Z0 (T:=45) rfl ?_ | (refine A3 (x:=c) hc (by omega) ?_) | (refine FO (x:=[.str G8]) rfl rfl ?_) | refine B2 hi1 ?_ | refine B2 hi2 ?_ |refine A4 ?_|refine S1 ?_|refine Z1 ?_|refine Z2 ?_|(refine And.intro ?_ ?_<;>intro h<;>try first|(exfalso;omega)|exact absurd rfl h)|refine Z3 ?_|refine Z4 ?_|intro el hel hbB|intro el hel|intro ex|refine Z5 ?_|(refine A9 ?_ ?_;exact ⟨by kernel_rfl,by decide⟩)|refine A8 ?_ ?_|exact A7|refine A6 ?_ ?_|exact A5|(refine A0 ?_ ?_ ?_;kernel_rfl;kernel_rfl) | refine nc [1,3] [0,0] hw rfl rfl rfl ⟨rfl,rfl,trivial⟩ ?_) <;> (try (conv=>whnf)))
       all_goals first
        | (exfalso;omega)
        | exact absurd (ho.symm.trans h) (by decide)
        | exact absurd h ho
        | exact B0 h0 rfl ⟨rfl,rfl,rfl,rfl,rfl,rfl,rfl,trivial⟩ ⟨rfl,⟨_,rfl⟩,rfl,⟨_,rfl⟩,trivial⟩ rfl rfl rfl
        | skip
       refine C2 (ι:=Nat) (fun j=>⟨[(1, .ref 0 0),(3, .ref 1 0),(43, .sl 7 (s.cols.map C0)),(44, .i s.cols.length),(45, .i k),(10, .row 4 0 (5 + j)),(65, .sl 1 (c.widths.map wA)),(66, .i c.widths.length),(67, .i j)],5,(0,some (.box (sL s))) :: (4,some (.row m9 1 0 (([L4,c.name,i1,i2,H2] ++ (c.widths.take j).map Lib.itoa).map C1))) :: bU 1 3 (X)⟩) (fun j=>j ≤ c.widths.length) (fun j=>c.widths.length - j) 0 (Nat.zero_le _) (B0 h0 rfl ⟨rfl,rfl,rfl,rfl,rfl,rfl,rfl,rfl,rfl,trivial⟩ ⟨rfl,⟨_,rfl⟩,rfl,⟨_,rfl⟩,trivial⟩ rfl rfl rfl) (fun j hjl=>?_)
       by_cases hjt:j < c.widths.length
       ·obtain ⟨w,hww⟩:∃ w,c.widths[j]? = some w:=⟨_,List.getElem?_eq_getElem hjt⟩
        have hwb:=hwb w (List.mem_of_getElem? hww)
        have hit:=G7 w (by omega) (by omega)
        have htk:(c.widths.take (j + 1)).map Lib.itoa = (c.widths.take j).map Lib.itoa ++ [Lib.itoa w]:=by rw [Q2 hww,List.map_append];rfl
        have hln:((c.widths.take j).map Lib.itoa).length = j:=by rw [List.length_map,List.length_take];omega
        generalize Lib.itoa w = iw at *
        generalize (c.widths.take j).map Lib.itoa = V at *
        repeat' ((first | (refine A3 (x:=w) hww (by omega) ?_) | refine B2 hit ?_ |refine A4 ?_|refine S1 ?_|refine Z1 ?_|refine Z2 ?_|(refine And.intro ?_ ?_<;>intro h<;>try first|(exfalso;omega)|exact absurd rfl h)|refine Z3 ?_|refine Z4 ?_|intro el hel hbB|intro el hel|intro ex|refine Z5 ?_|(refine A9 ?_ ?_;exact ⟨by kernel_rfl,by decide⟩)|refine A8 ?_ ?_|exact A7|refine A6 ?_ ?_|exact A5|(refine A0 ?_ ?_ ?_;kernel_rfl;kernel_rfl)) <;> (try (conv=>whnf)))
        all_goals first
         | (exfalso;omega)
         | exact ⟨j + 1,by omega,by omega,B0 h0 rfl ⟨rfl,rfl,rfl,rfl,rfl,rfl,rfl,rfl,rfl,trivial⟩ ⟨rfl,⟨_,congrArg (C6.row m9 1 _) (by rw [htk, ← List.append_assoc,List.map_append];rfl)⟩,rfl,⟨_,rfl⟩,trivial⟩ rfl rfl rfl⟩
       ·obtain rfl:j = c.widths.length:=by omega
        rw [List.take_length]
        rw [← hmw]
        repeat' ((first | refine B2 hline ?_ |refine A4 ?_|refine S1 ?_|refine Z1 ?_|refine Z2 ?_|(refine And.intro ?_ ?_<;>intro h<;>try first|(exfalso;omega)|exact absurd rfl h)|refine Z3 ?_|refine Z4 ?_|intro el hel hbB|intro el hel|intro ex|refine Z5 ?_|(refine A9 ?_ ?_;exact ⟨by kernel_rfl,by decide⟩)|refine A8 ?_ ?_|exact A7|refine A6 ?_ ?_|exact A5|(refine A0 ?_ ?_ ?_;kernel_rfl;kernel_rfl) | refine nc [1,3] [0,0] hw rfl rfl rfl ⟨rfl,rfl,trivial⟩ ?_ | refine P8 4 ?_) <;> (try (conv=>whnf)))
        all_goals first
         | (exfalso;omega)
         | exact B0 h0 rfl ⟨rfl,rfl,rfl,rfl,rfl,trivial⟩ ⟨rfl,rfl,⟨_,rfl⟩,trivial⟩ rfl rfl rfl
         | exact ⟨k + 1,by omega,by first | omega | (dsimp only;omega),B0 h0 rfl ⟨rfl,rfl,rfl,rfl,rfl,trivial⟩ ⟨rfl,congrArg (fun z:List UInt8=>C6.bx bB [.ref 1 0, .row 3 0 z.length]) hsn,⟨_,congrArg (fun z:List UInt8=>C6.row eB 1 _ (H5 z)) hsn⟩,trivial⟩ rfl rfl rfl⟩
      ·rw [if_neg ho] at hmw
       repeat' ((first | (refine G2 16 ?_;refine K5 (id:=16) (σ':=⟨[(1, .ref 0 0),(3, .ref 1 0),(43, .sl 7 (s.cols.map C0)),(44, .i s.cols.length),(45, .i k),(9, .iptr (C0 c))],4,(0,some (.box (sL s))) :: bU 1 3 (X)⟩) (B0 h0 rfl ⟨rfl,rfl,rfl,rfl,rfl,rfl,trivial⟩ ⟨rfl,rfl,⟨_,rfl⟩,trivial⟩ rfl rfl rfl) ?_;refine G6 (id:=16) ⟨[(1, .ref 0 0),(3, .ref 1 0),(43, .sl 7 (s.cols.map C0)),(44, .i s.cols.length),(45, .i k),(9, .iptr (C0 c)),(10, .row 4 0 5)],5,(0,some (.box (sL s))) :: (4,some (.row m9 1 0 ([L4,c.name,i1,i2,G8].map C1))) :: bU 1 3 (X)⟩ ?_ ?_) | (refine BN ?_ ?_ ?_;kernel_rfl;kernel_rfl) | refine Z0 (T:=45) rfl ?_ | (refine A3 (x:=c) hc (by omega) ?_) | (refine FO (x:=[.str G8]) rfl rfl ?_) | refine B2 hi1 ?_ | refine B2 hi2 ?_ |refine A4 ?_|refine S1 ?_|refine Z1 ?_|refine Z2 ?_|(refine And.intro ?_ ?_<;>intro h<;>try first|(exfalso;omega)|exact absurd rfl h)|refine Z3 ?_|refine Z4 ?_|intro el hel hbB|intro el hel|intro ex|refine Z5 ?_|(refine A9 ?_ ?_;exact ⟨by kernel_rfl,by decide⟩)|refine A8 ?_ ?_|exact A7|refine A6 ?_ ?_|exact A5|(refine A0 ?_ ?_ ?_;kernel_rfl;kernel_rfl) | refine nc [1,3] [0,0] hw rfl rfl rfl ⟨rfl,rfl,trivial⟩ ?_) <;> (try (conv=>whnf)))
       all_goals first
        | (exfalso;omega)
        | exact absurd (ho.symm.trans h) (by decide)
        | exact absurd h ho
        | exact B0 h0 rfl ⟨rfl,rfl,rfl,rfl,rfl,rfl,rfl,trivial⟩ ⟨rfl,⟨_,rfl⟩,rfl,⟨_,rfl⟩,trivial⟩ rfl rfl rfl
        | skip
       refine C2 (ι:=Nat) (fun j=>⟨[(1, .ref 0 0),(3, .ref 1 0),(43, .sl 7 (s.cols.map C0)),(44, .i s.cols.length),(45, .i k),(10, .row 4 0 (5 + j)),(65, .sl 1 (c.widths.map wA)),(66, .i c.widths.length),(67, .i j)],5,(0,some (.box (sL s))) :: (4,some (.row m9 1 0 (([L4,c.name,i1,i2,G8] ++ (c.widths.take j).map Lib.itoa).map C1))) :: bU 1 3 (X)⟩) (fun j=>j ≤ c.widths.length) (fun j=>c.widths.length - j) 0 (Nat.zero_le _) (B0 h0 rfl ⟨rfl,rfl,rfl,rfl,rfl,rfl,rfl,rfl,rfl,trivial⟩ ⟨rfl,⟨_,rfl⟩,rfl,⟨_,rfl⟩,trivial⟩ rfl rfl rfl) (fun j hjl=>?_)
       by_cases hjt:j < c.widths.length
       ·obtain ⟨w,hww⟩:∃ w,c.widths[j]? = some w:=⟨_,List.getElem?_eq_getElem hjt⟩
        have hwb:=hwb w (List.mem_of_getElem? hww)
        have hit:=G7 w (by omega) (by omega)
        have htk:(c.widths.take (j + 1)).map Lib.itoa = (c.widths.take j).map Lib.itoa ++ [Lib.itoa w]:=by rw [Q2 hww,List.map_append];rfl
        have hln:((c.widths.take j).map Lib.itoa).length = j:=by rw [List.length_map,List.length_take];omega
        generalize Lib.itoa w = iw at *
        generalize (c.widths.take j).map Lib.itoa = V at *
        repeat' ((first | (refine A3 (x:=w) hww (by omega) ?_) | refine B2 hit ?_ |refine A4 ?_|refine S1 ?_|refine Z1 ?_|refine Z2 ?_|(refine And.intro ?_ ?_<;>intro h<;>try first|(exfalso;omega)|exact absurd rfl h)|refine Z3 ?_|refine Z4 ?_|intro el hel hbB|intro el hel|intro ex|refine Z5 ?_|(refine A9 ?_ ?_;exact ⟨by kernel_rfl,by decide⟩)|refine A8 ?_ ?_|exact A7|refine A6 ?_ ?_|exact A5|(refine A0 ?_ ?_ ?_;kernel_rfl;kernel_rfl)) <;> (try (conv=>whnf)))
        all_goals first
         | (exfalso;omega)
         | exact ⟨j + 1,by omega,by omega,B0 h0 rfl ⟨rfl,rfl,rfl,rfl,rfl,rfl,rfl,rfl,rfl,trivial⟩ ⟨rfl,⟨_,congrArg (C6.row m9 1 _) (by rw [htk, ← List.append_assoc,List.map_append];rfl)⟩,rfl,⟨_,rfl⟩,trivial⟩ rfl rfl rfl⟩
       ·obtain rfl:j = c.widths.length:=by omega
        rw [List.take_length]
        rw [← hmw]
        repeat' ((first | refine B2 hline ?_ |refine A4 ?_|refine S1 ?_|refine Z1 ?_|refine Z2 ?_|(refine And.intro ?_ ?_<;>intro h<;>try first|(exfalso;omega)|exact absurd rfl h)|refine Z3 ?_|refine Z4 ?_|intro el hel hbB|intro el hel|intro ex|refine Z5 ?_|(refine A9 ?_ ?_;exact ⟨by kernel_rfl,by decide⟩)|refine A8 ?_ ?_|exact A7|refine A6 ?_ ?_|exact A5|(refine A0 ?_ ?_ ?_;kernel_rfl;kernel_rfl) | refine nc [1,3] [0,0] hw rfl rfl rfl ⟨rfl,rfl,trivial⟩ ?_ | refine P8 4 ?_) <;> (try (conv=>whnf)))
        all_goals first
         | (exfalso;omega)
         | exact B0 h0 rfl ⟨rfl,rfl,rfl,rfl,rfl,trivial⟩ ⟨rfl,rfl,⟨_,rfl⟩,trivial⟩ rfl rfl rfl
         | exact ⟨k + 1,by omega,by first | omega | (dsimp only;omega),B0 h0 rfl ⟨rfl,rfl,rfl,rfl,rfl,trivial⟩ ⟨rfl,congrArg (fun z:List UInt8=>C6.bx bB [.ref 1 0, .row 3 0 z.length]) hsn,⟨_,congrArg (fun z:List UInt8=>C6.row eB 1 _ (H5 z)) hsn⟩,trivial⟩ rfl rfl rfl⟩
    ·obtain rfl:k = s.cols.length:=by omega
     rw [List.take_length]
     have hTn:(H ++ s.cols.flatMap fun c=>C7 (D9 c)) ≠ []:=MJ (by
      intro e
      cases hcs:s.cols with
      | nil=>exact hne hcs
      | cons c r =>
        rw [hcs,List.flatMap_cons] at e
        exact BT _ (List.append_eq_nil_iff.1 e).1)
     generalize H ++ (s.cols.flatMap fun c=>C7 (D9 c)) = T at *
     have hs:=RT T hTn
     repeat' ((first|refine A4 ?_|refine S1 ?_|refine Z1 ?_|refine Z2 ?_|(refine And.intro ?_ ?_<;>intro h<;>try first|(exfalso;omega)|exact absurd rfl h)|refine Z3 ?_|refine Z4 ?_|intro el hel hbB|intro el hel|intro ex|refine Z5 ?_|(refine A9 ?_ ?_;exact ⟨by kernel_rfl,by decide⟩)|refine A8 ?_ ?_|exact A7|refine A6 ?_ ?_|exact A5|(refine A0 ?_ ?_ ?_;kernel_rfl;kernel_rfl) | refine nc [1,3] [0,0] hs rfl rfl rfl ⟨rfl,rfl,trivial⟩ ?_) <;> (try (conv=>whnf)))
     all_goals first
      | (exfalso;omega)
      | exact B5 rfl rfl
end Go.Proofs.YtiphlhoclaogjabGreatDoor
