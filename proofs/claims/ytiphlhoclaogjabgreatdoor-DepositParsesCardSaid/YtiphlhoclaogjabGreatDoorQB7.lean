/- Chapter 2: schemas, and which are right. Chapter 2: which values fit, levels, coarse values. Chapter 2: rows, columns with a name, levels. Chapter 2: blocks, the least level, coarse values, values turned to another level. -/
import Derived.Test.YtiphlhoclaogjabGreatDoorQB4
import Derived.Test.YtiphlhoclaogjabGreatDoorQB5
set_option linter.unusedVariables false
set_option linter.unnecessarySimpa false
set_option linter.unusedSimpArgs false
namespace Go.Proofs.YtiphlhoclaogjabGreatDoor
open Go Go.Av
attribute [local irreducible] D6 B8 D8 D7 DQ E0 E1 St.le B4 B9
set_option maxRecDepth 100000
structure C5 where
 name:List UInt8
 kind:Int
 lst:Int
 low:Int
 high:Int
 widths:List Int
 opt:Bool
deriving DecidableEq
abbrev CL:=List UInt8 × List Code
structure C4 where
 lists:List CL
 cols:List C5
abbrev wA (w:Int):List AV:=[.i w]
abbrev C0 (c:C5):List AV:=[.str c.name, .i c.kind, .i c.lst, .i c.low, .i c.high, .sl 1 (c.widths.map wA), .b c.opt]
abbrev D3 (l:CL):List AV:=[.str l.1, .sl 2 (l.2.map cA)]
abbrev sL (s:C4):List AV:=[.sl 2 (s.lists.map D3), .sl 7 (s.cols.map C0)]
abbrev sA (s:C4):AV:=.agg (sL s)
abbrev M4 (c:C5):AV:=.agg (C0 c)
abbrev Xk (l:CL):AV:=.agg (D3 l)
def Ap:Int → List Int → Bool
 | _,[]=>true
 | last,w :: r=>decide (last < w) && decide (w.tmod last = 0) && decide (w ≤ 1000000) && Ap w r
def T9:List Int → Bool
 | []=>true
 | w :: r=>decide (w = 1) && Ap 1 r
def meaE (c:C5):Int:=if c.low < -1000000 ∨ 1000000 < c.high ∨ c.high < c.low then 2 else if c.widths.length = 0 ∨ 4 < c.widths.length then 1 else if T9 c.widths = true then 0 else 2
def BK (c:C5):Bool:=decide (¬ (c.kind ≠ 2 ∧ c.lst ≠ 0) ∧ (c.kind = 3 ∨ c.low = 0 ∧ c.high = 0 ∧ c.widths.length = 0 ∧ c.opt = false))
def kindE (s:C4) (i:Nat) (c:C5):Int :=
 if c.kind = 1 then (if (0:Int) < (i:Int) then 4 else 0) else if c.kind = 2 then (if c.lst < 0 ∨ (s.lists.length:Int) ≤ c.lst then 5 else 0) else if c.kind = 3 then meaE c else 4
def Cd (s:C4) (i:Nat) (c:C5):Bool:=(s.cols.take i).any fun x=>decide (x.name = c.name)
def colE (s:C4) (i:Nat) (c:C5):Int :=
 if E7 c.name = false then 3 else if Cd s i c = true then 10 else if kindE s i c = 0 then (if BK c = true then 0 else 11) else kindE s i c
def U2 (ls:List CL) (i:Nat) (l:CL):Int:=if chk l.1 l.2 = 0 then (if ((ls.take i).any fun x=>decide (x.1 = l.1)) = true then 10 else 0) else chk l.1 l.2
def H6 (s:C4):Int :=
 if 6 < s.lists.length ∨ 8 < s.cols.length then 1 else if M2 (U2 s.lists) 0 s.lists = 0 then
  (if s.cols.head?.map (·.kind) = some 1 then M2 (colE s) 0 s.cols else 7) else M2 (U2 s.lists) 0 s.lists
def AD (ws:List Int) (k:Nat) (last:Int):Prop:=k ≤ ws.length ∧ ((k = 0 ∧ last = 1) ∨ (0 < k ∧ 1 ≤ last ∧ T9 ws = Ap last (ws.drop k)))
theorem AD.pos {ws:List Int} {k:Nat} {last:Int} (h:AD ws k last):1 ≤ last:=by rcases h.2 with h | h <;> omega
theorem AD.first {ws:List Int} {k:Nat} {last w:Int} (h:AD ws k last) (hw:ws[k]? = some w) (hk:k = 0) (h1:w = 1):AD ws (k + 1) w:=by
 subst hk h1
 refine ⟨R6 hw, .inr ⟨by omega,by omega,?_⟩⟩
 have:ws = 1 :: ws.drop 1:=by have:=S3 hw;simpa using this
 rw [this];simp [T9]
theorem AD.next {ws:List Int} {k:Nat} {last w:Int} (h:AD ws k last) (hw:ws[k]? = some w) (hk:0 < k) (h1:last < w) (h2:w.tmod last = 0) (h3:w ≤ 1000000):AD ws (k + 1) w:=by
 rcases h.2 with h | h
 ·omega
 ·refine ⟨R6 hw, .inr ⟨by omega,by omega,?_⟩⟩
  rw [h.2.2,S3 hw];simp [Ap,h1,h2,h3]
theorem AD.bad0 {ws:List Int} {k:Nat} {last w:Int} (h:AD ws k last) (hw:ws[k]? = some w) (hk:k = 0) (h1:¬ w = 1):T9 ws = false:=by
 subst hk
 have:ws = w :: ws.drop 1:=by have:=S3 hw;simpa using this
 rw [this];simp [T9,h1]
theorem AD.bad {ws:List Int} {k:Nat} {last w:Int} (h:AD ws k last) (hw:ws[k]? = some w) (hk:0 < k) (h1:¬ (last < w ∧ w.tmod last = 0 ∧ w ≤ 1000000)):T9 ws = false:=by
 rcases h.2 with h | h
 ·omega
 ·rw [h.2.2,S3 hw]
  simp only [Ap,Bool.and_eq_false_iff,decide_eq_false_iff_not]
  omega
theorem AD.done {ws:List Int} {k:Nat} {last:Int} (h:AD ws k last) (hk:¬ (k:Int) < ws.length) (hn:ws.length ≠ 0):T9 ws = true:=by
 rcases h.2 with h2 | h2
 ·omega
 ·rw [h2.2.2,LU hk];rfl
set_option maxHeartbeats 4000000 in
theorem Ld (c:C5):B4 Tryz.prog 84 [M4 c] (.i (meaE c)):=by
 refine F3 Tryz.func84 68 fun hrd E h0=>?_
 have hlen:c.widths.length ≤ 9223372036854775807:=by
  have:=((hrd (M4 c) (by simp)).agg (.sl 1 (c.widths.map wA)) (by simp)).sl
  simpa using this
 repeat' ((first|refine A4 ?_|refine S1 ?_|refine Z1 ?_|refine Z2 ?_|(refine And.intro ?_ ?_<;>intro h<;>try first|(exfalso;omega)|exact absurd rfl h)|refine Z3 ?_|refine Z4 ?_|intro el hel hbB|intro el hel|intro ex|refine Z5 ?_|(refine A9 ?_ ?_;exact ⟨by kernel_rfl,by decide⟩)|refine A8 ?_ ?_|exact A7|refine A6 ?_ ?_|exact A5|(refine A0 ?_ ?_ ?_;kernel_rfl;kernel_rfl)) <;> (try (conv=>whnf)))
 all_goals first
  | exact B5 rfl (congrArg AV.i (by rw [meaE,if_pos (by omega)]))
  | exact B5 rfl (congrArg AV.i (by rw [meaE,if_neg (by omega),if_pos (by omega)]))
  | skip
 have hm:meaE c = if T9 c.widths = true then 0 else 2:=by rw [meaE,if_neg (by omega),if_neg (by omega)]
 have hne:c.widths.length ≠ 0:=by omega
 rw [hm]
 refine C2 (ι:=Nat × Int) (fun x=>⟨[(3, .i x.2),(34, .sl 1 (c.widths.map wA)),(35, .i c.widths.length),(36, .i x.1)],0,[]⟩) (fun x=>AD c.widths x.1 x.2) (fun x=>c.widths.length - x.1) (0,1) ⟨Nat.zero_le _, .inl ⟨rfl,rfl⟩⟩ (B0 h0 rfl ⟨rfl,rfl,rfl,rfl,trivial⟩ trivial rfl rfl rfl) (fun x hI=>?_)
 obtain ⟨k,last⟩:=x
 have hp:=hI.pos
 have hk:=hI.1
 dsimp only at hI hp hk ⊢
 repeat' ((first|refine A4 ?_|refine S1 ?_|refine Z1 ?_|refine Z2 ?_|(refine And.intro ?_ ?_<;>intro h<;>try first|(exfalso;omega)|exact absurd rfl h)|refine Z3 ?_|refine Z4 ?_|intro el hel hbB|intro el hel|intro ex|refine Z5 ?_|(refine A9 ?_ ?_;exact ⟨by kernel_rfl,by decide⟩)|refine A8 ?_ ?_|exact A7|refine A6 ?_ ?_|exact A5|(refine A0 ?_ ?_ ?_;kernel_rfl;kernel_rfl)) <;> (try (conv=>whnf)))
 all_goals first
  | exact B5 rfl (congrArg AV.i (by rw [hI.bad0 hel (by omega) (by omega)];rfl))
  | exact B5 rfl (congrArg AV.i (by rw [hI.bad hel (by omega) (fun hx=>by first | exact absurd hx.2.1 (by assumption) | omega)];rfl))
  | exact B5 rfl (congrArg AV.i (by rw [hI.done (by assumption) hne];rfl))
  | exact ⟨(k + 1,el),hI.first hel (by omega) (by omega),by simp only;omega,B0 h0 rfl ⟨rfl,rfl,rfl,rfl,trivial⟩ trivial rfl rfl rfl⟩
  | exact ⟨(k + 1,el),hI.next hel (by omega) (by omega) (Classical.byContradiction (by assumption)) (by omega),by simp only;omega,B0 h0 rfl ⟨rfl,rfl,rfl,rfl,trivial⟩ trivial rfl rfl rfl⟩
theorem NC (c:C5):B4 Tryz.prog 85 [M4 c] (.b (BK c)):=by
 refine F3 Tryz.func85 35 fun hrd E h0=>?_
 repeat' ((first|refine A4 ?_|refine S1 ?_|refine Z1 ?_|refine Z2 ?_|(refine And.intro ?_ ?_<;>intro h<;>try first|(exfalso;omega)|exact absurd rfl h)|refine Z3 ?_|refine Z4 ?_|intro el hel hbB|intro el hel|intro ex|refine Z5 ?_|(refine A9 ?_ ?_;exact ⟨by kernel_rfl,by decide⟩)|refine A8 ?_ ?_|exact A7|refine A6 ?_ ?_|exact A5|(refine A0 ?_ ?_ ?_;kernel_rfl;kernel_rfl)) <;> (try (conv=>whnf)))
 all_goals first
  | exact B5 rfl (congrArg AV.b (by simp_all [BK]))
set_option maxHeartbeats 2000000 in
theorem WE (l:List (C5)) (f:Nat) (caps:List AV) (p:(C5) → Bool) (hf:∀ x ∈ l,B4 Tryz.prog f ((fun x=>M4 x) x :: caps) (.b (p x))):B4 Tryz.prog 108 [.sl 7 (l.map C0), .fn f caps] (.i (I5 p l 0)):=by
 refine F3 Tryz.func108 19 fun hrd E h0=>?_
 have hlen:l.length ≤ 9223372036854775807:=by have:=(hrd (.sl 7 (l.map C0)) (by simp)).sl;simpa using this
 repeat' ((first|refine A4 ?_|refine S1 ?_|refine Z1 ?_|refine Z2 ?_|(refine And.intro ?_ ?_<;>intro h<;>try first|(exfalso;omega)|exact absurd rfl h)|refine Z3 ?_|refine Z4 ?_|intro el hel hbB|intro el hel|intro ex|refine Z5 ?_|(refine A9 ?_ ?_;exact ⟨by kernel_rfl,by decide⟩)|refine A8 ?_ ?_|exact A7|refine A6 ?_ ?_|exact A5|(refine A0 ?_ ?_ ?_;kernel_rfl;kernel_rfl)) <;> (try (conv=>whnf)))
 refine C2 (ι:=Nat) (fun k=>⟨[(0, .sl 7 (l.map C0)),(1, .fn f caps),(7, .i l.length),(8, .i k)],0,[]⟩) (fun k=>k ≤ l.length ∧ I5 p l 0 = I5 p (l.drop k) k) (fun k=>l.length - k) 0 ⟨Nat.zero_le _,rfl⟩ (B0 h0 rfl ⟨rfl,rfl,rfl,rfl,trivial⟩ trivial rfl rfl rfl) (fun k hI=>?_)
 obtain ⟨hk,hI⟩:=hI
 repeat' ((first | refine B2 (hf _ (List.mem_of_getElem? hel)) ?_ |refine A4 ?_|refine S1 ?_|refine Z1 ?_|refine Z2 ?_|(refine And.intro ?_ ?_<;>intro h<;>try first|(exfalso;omega)|exact absurd rfl h)|refine Z3 ?_|refine Z4 ?_|intro el hel hbB|intro el hel|intro ex|refine Z5 ?_|(refine A9 ?_ ?_;exact ⟨by kernel_rfl,by decide⟩)|refine A8 ?_ ?_|exact A7|refine A6 ?_ ?_|exact A5|(refine A0 ?_ ?_ ?_;kernel_rfl;kernel_rfl)) <;> (try (conv=>whnf)))
 all_goals first
  | exact ⟨k + 1,⟨by omega,by rw [hI,S3 hel,I5,if_neg (by simp [h])];rfl⟩,by omega,B0 h0 rfl ⟨rfl,rfl,rfl,rfl,trivial⟩ trivial rfl rfl rfl⟩
  | exact B5 rfl (congrArg AV.i (by rw [hI,S3 hel,I5,if_pos (by simp [h])]))
  | exact B5 rfl (congrArg AV.i (by rw [hI,show k = l.length by omega,List.drop_length];rfl))
set_option maxHeartbeats 2000000 in
theorem WF (l:List (C5)) (f:Nat) (caps:List AV) (p:(C5) → Bool) (hf:∀ x ∈ l,B4 Tryz.prog f ((fun x=>M4 x) x :: caps) (.b (p x))):B4 Tryz.prog 82 [.sl 7 (l.map C0), .fn f caps] (.b (l.any p)):=by
 refine F3 Tryz.func82 9 fun hrd E h0=>?_
 have hidx:=WE l f caps p hf
 repeat' ((first | refine B2 hidx ?_ |refine A4 ?_|refine S1 ?_|refine Z1 ?_|refine Z2 ?_|(refine And.intro ?_ ?_<;>intro h<;>try first|(exfalso;omega)|exact absurd rfl h)|refine Z3 ?_|refine Z4 ?_|intro el hel hbB|intro el hel|intro ex|refine Z5 ?_|(refine A9 ?_ ?_;exact ⟨by kernel_rfl,by decide⟩)|refine A8 ?_ ?_|exact A7|refine A6 ?_ ?_|exact A5|(refine A0 ?_ ?_ ?_;kernel_rfl;kernel_rfl)) <;> (try (conv=>whnf)))
 all_goals first
  | exact B5 rfl (congrArg AV.b (AN p l 0 (by omega)))
set_option maxHeartbeats 2000000 in
theorem Xl (l:List (CL)) (f:Nat) (caps:List AV) (p:(CL) → Bool) (hf:∀ x ∈ l,B4 Tryz.prog f ((fun x=>Xk x) x :: caps) (.b (p x))):B4 Tryz.prog 81 [.sl 2 (l.map D3), .fn f caps] (.i (I5 p l 0)):=by
 refine F3 Tryz.func81 19 fun hrd E h0=>?_
 have hlen:l.length ≤ 9223372036854775807:=by have:=(hrd (.sl 2 (l.map D3)) (by simp)).sl;simpa using this
 repeat' ((first|refine A4 ?_|refine S1 ?_|refine Z1 ?_|refine Z2 ?_|(refine And.intro ?_ ?_<;>intro h<;>try first|(exfalso;omega)|exact absurd rfl h)|refine Z3 ?_|refine Z4 ?_|intro el hel hbB|intro el hel|intro ex|refine Z5 ?_|(refine A9 ?_ ?_;exact ⟨by kernel_rfl,by decide⟩)|refine A8 ?_ ?_|exact A7|refine A6 ?_ ?_|exact A5|(refine A0 ?_ ?_ ?_;kernel_rfl;kernel_rfl)) <;> (try (conv=>whnf)))
 refine C2 (ι:=Nat) (fun k=>⟨[(0, .sl 2 (l.map D3)),(1, .fn f caps),(7, .i l.length),(8, .i k)],0,[]⟩) (fun k=>k ≤ l.length ∧ I5 p l 0 = I5 p (l.drop k) k) (fun k=>l.length - k) 0 ⟨Nat.zero_le _,rfl⟩ (B0 h0 rfl ⟨rfl,rfl,rfl,rfl,trivial⟩ trivial rfl rfl rfl) (fun k hI=>?_)
 obtain ⟨hk,hI⟩:=hI
 repeat' ((first | refine B2 (hf _ (List.mem_of_getElem? hel)) ?_ |refine A4 ?_|refine S1 ?_|refine Z1 ?_|refine Z2 ?_|(refine And.intro ?_ ?_<;>intro h<;>try first|(exfalso;omega)|exact absurd rfl h)|refine Z3 ?_|refine Z4 ?_|intro el hel hbB|intro el hel|intro ex|refine Z5 ?_|(refine A9 ?_ ?_;exact ⟨by kernel_rfl,by decide⟩)|refine A8 ?_ ?_|exact A7|refine A6 ?_ ?_|exact A5|(refine A0 ?_ ?_ ?_;kernel_rfl;kernel_rfl)) <;> (try (conv=>whnf)))
 all_goals first
  | exact ⟨k + 1,⟨by omega,by rw [hI,S3 hel,I5,if_neg (by simp [h])];rfl⟩,by omega,B0 h0 rfl ⟨rfl,rfl,rfl,rfl,trivial⟩ trivial rfl rfl rfl⟩
  | exact B5 rfl (congrArg AV.i (by rw [hI,S3 hel,I5,if_pos (by simp [h])]))
  | exact B5 rfl (congrArg AV.i (by rw [hI,show k = l.length by omega,List.drop_length];rfl))
set_option maxHeartbeats 2000000 in
theorem Xm (l:List (CL)) (f:Nat) (caps:List AV) (p:(CL) → Bool) (hf:∀ x ∈ l,B4 Tryz.prog f ((fun x=>Xk x) x :: caps) (.b (p x))):B4 Tryz.prog 55 [.sl 2 (l.map D3), .fn f caps] (.b (l.any p)):=by
 refine F3 Tryz.func55 9 fun hrd E h0=>?_
 have hidx:=Xl l f caps p hf
 repeat' ((first | refine B2 hidx ?_ |refine A4 ?_|refine S1 ?_|refine Z1 ?_|refine Z2 ?_|(refine And.intro ?_ ?_<;>intro h<;>try first|(exfalso;omega)|exact absurd rfl h)|refine Z3 ?_|refine Z4 ?_|intro el hel hbB|intro el hel|intro ex|refine Z5 ?_|(refine A9 ?_ ?_;exact ⟨by kernel_rfl,by decide⟩)|refine A8 ?_ ?_|exact A7|refine A6 ?_ ?_|exact A5|(refine A0 ?_ ?_ ?_;kernel_rfl;kernel_rfl)) <;> (try (conv=>whnf)))
 all_goals first
  | exact B5 rfl (congrArg AV.b (AN p l 0 (by omega)))
theorem Le (x c:C5):B4 Tryz.prog 83 [M4 x, .iptr (C0 c)] (.b (decide (x.name = c.name))):=by
 refine F3 Tryz.func83 9 fun hrd E h0=>?_
 repeat' ((first|refine A4 ?_|refine S1 ?_|refine Z1 ?_|refine Z2 ?_|(refine And.intro ?_ ?_<;>intro h<;>try first|(exfalso;omega)|exact absurd rfl h)|refine Z3 ?_|refine Z4 ?_|intro el hel hbB|intro el hel|intro ex|refine Z5 ?_|(refine A9 ?_ ?_;exact ⟨by kernel_rfl,by decide⟩)|refine A8 ?_ ?_|exact A7|refine A6 ?_ ?_|exact A5|(refine A0 ?_ ?_ ?_;kernel_rfl;kernel_rfl)) <;> (try (conv=>whnf)))
 all_goals exact B5 rfl rfl
theorem KG (x l:CL):B4 Tryz.prog 56 [Xk x, .iptr (D3 l)] (.b (decide (x.1 = l.1))):=by
 refine F3 Tryz.func56 9 fun hrd E h0=>?_
 repeat' ((first|refine A4 ?_|refine S1 ?_|refine Z1 ?_|refine Z2 ?_|(refine And.intro ?_ ?_<;>intro h<;>try first|(exfalso;omega)|exact absurd rfl h)|refine Z3 ?_|refine Z4 ?_|intro el hel hbB|intro el hel|intro ex|refine Z5 ?_|(refine A9 ?_ ?_;exact ⟨by kernel_rfl,by decide⟩)|refine A8 ?_ ?_|exact A7|refine A6 ?_ ?_|exact A5|(refine A0 ?_ ?_ ?_;kernel_rfl;kernel_rfl)) <;> (try (conv=>whnf)))
 all_goals exact B5 rfl rfl
set_option maxHeartbeats 4000000 in
theorem ND (s:C4) (i:Nat) (c:C5) (hc:s.cols[i]? = some c):B4 Tryz.prog 57 [sA s, .i i] (.i (colE s i c)):=by
 have hi:=R6 hc
 have hany:=WF (s.cols.take i) 83 [.iptr (C0 c)] (fun x=>decide (x.name = c.name)) (fun x _=>Le x c)
 rw [List.map_take] at hany
 have hused:=NC c
 generalize hu:BK c = u at hused
 have hmea:=Ld c
 generalize hm:meaE c = m at hmea
 refine F3 Tryz.func57 51 fun hrd E h0=>?_
 repeat' ((first | (refine A3 (x:=c) (by simpa using hc) (by omega) ?_) | refine B2 (Ei _) ?_ | refine B2 hmea ?_ | refine B2 hused ?_ | refine P8 1 ?_ | refine B2 hany ?_ |refine A4 ?_|refine S1 ?_|refine Z1 ?_|refine Z2 ?_|(refine And.intro ?_ ?_<;>intro h<;>try first|(exfalso;omega)|exact absurd rfl h)|refine Z3 ?_|refine Z4 ?_|intro el hel hbB|intro el hel|intro ex|refine Z5 ?_|(refine A9 ?_ ?_;exact ⟨by kernel_rfl,by decide⟩)|refine A8 ?_ ?_|exact A7|refine A6 ?_ ?_|exact A5|(refine A0 ?_ ?_ ?_;kernel_rfl;kernel_rfl)) <;> (try (conv=>whnf)))
 all_goals
  refine B5 rfl (congrArg AV.i ?_)
  clear hany hrd h0 hi hc E hused hmea
 all_goals first
  | (first | (simp only [colE,kindE,Cd,hu,hm, *,if_true,if_false,Bool.true_eq_false,Bool.false_eq_true,or_true,or_false,true_or,false_or,and_true,true_and,and_false,false_and,not_true_eq_false,not_false_eq_true,ne_eq,reduceIte,Int.reduceEq,Int.reduceLT,Int.reduceLE,Int.reduceNeg,decide_true,decide_false,Bool.not_true,Bool.not_false,Bool.and_true,Bool.true_and,Bool.and_false,Bool.false_and,Bool.or_true,Bool.true_or,Bool.or_false,Bool.false_or,Option.some.injEq];done) | (simp only [colE,kindE,Cd,hu,hm, *,if_true,if_false,Bool.true_eq_false,Bool.false_eq_true,not_true_eq_false,not_false_eq_true,ne_eq,reduceIte,Int.reduceEq];first | rfl | (repeat' split) <;> first | rfl | omega | (exfalso;omega) | contradiction))
theorem p9 {s:C4} (h:Rd (sA s)):s.lists.length ≤ 9223372036854775807 ∧ s.cols.length ≤ 9223372036854775807 ∧ ∀ l ∈ s.lists,l.2.length ≤ 9223372036854775807:=by
 refine ⟨by have:=(h.agg (.sl 2 (s.lists.map D3)) (by simp)).sl;simpa using this,by have:=(h.agg (.sl 7 (s.cols.map C0)) (by simp)).sl;simpa using this,fun l hl=>?_⟩
 have:=((h.agg (.sl 2 (s.lists.map D3)) (by simp)).elem (D3 l) (List.mem_map.2 ⟨l,hl,rfl⟩) (.sl 2 (l.2.map cA)) (by simp)).sl
 simpa using this
set_option maxHeartbeats 4000000 in
theorem NE (s:C4):B4 Tryz.prog 23 [sA s] (.i (H6 s)):=by
 refine F3 Tryz.func23 63 fun hrd E h0=>?_
 obtain ⟨hl1,hl2,hl3⟩:=p9 (s:=s) (hrd _ (by simp))
 clear hrd
 repeat' ((first|refine A4 ?_|refine S1 ?_|refine Z1 ?_|refine Z2 ?_|(refine And.intro ?_ ?_<;>intro h<;>try first|(exfalso;omega)|exact absurd rfl h)|refine Z3 ?_|refine Z4 ?_|intro el hel hbB|intro el hel|intro ex|refine Z5 ?_|(refine A9 ?_ ?_;exact ⟨by kernel_rfl,by decide⟩)|refine A8 ?_ ?_|exact A7|refine A6 ?_ ?_|exact A5|(refine A0 ?_ ?_ ?_;kernel_rfl;kernel_rfl)) <;> (try (conv=>whnf)))
 all_goals first
  | exact B5 rfl (congrArg AV.i (by rw [H6,if_pos (by omega)]))
  | skip
 have hs:H6 s = if M2 (U2 s.lists) 0 s.lists = 0 then (if s.cols.head?.map (·.kind) = some 1 then M2 (colE s) 0 s.cols else 7) else M2 (U2 s.lists) 0 s.lists:=by rw [H6,if_neg (by omega)]
 rw [hs]
 refine C2 (ι:=Nat) (fun k=>⟨[(1, .ref 0 0),(19, .sl 2 (s.lists.map D3)),(20, .i s.lists.length),(21, .i k)],1,[(0,some (.box (sL s)))]⟩) (fun k=>V7 (U2 s.lists) s.lists k) (fun k=>s.lists.length - k) 0 (V7.zero _ _) (B0 h0 rfl ⟨rfl,rfl,rfl,rfl,trivial⟩ ⟨rfl,trivial⟩ rfl rfl rfl) (fun k hI=>?_)
 have hk:=hI.1
 have hany:=fun l:CL=>Xm (s.lists.take k) 56 [.iptr (D3 l)] (fun x=>decide (x.1 = l.1)) (fun x _=>KG x l)
 rw [List.map_take] at hany
 repeat' ((first | refine B2 (PA _ _ (hl3 _ (List.mem_of_getElem? hel))) ?_ | refine P8 1 ?_ | refine B2 (hany _) ?_ |refine A4 ?_|refine S1 ?_|refine Z1 ?_|refine Z2 ?_|(refine And.intro ?_ ?_<;>intro h<;>try first|(exfalso;omega)|exact absurd rfl h)|refine Z3 ?_|refine Z4 ?_|intro el hel hbB|intro el hel|intro ex|refine Z5 ?_|(refine A9 ?_ ?_;exact ⟨by kernel_rfl,by decide⟩)|refine A8 ?_ ?_|exact A7|refine A6 ?_ ?_|exact A5|(refine A0 ?_ ?_ ?_;kernel_rfl;kernel_rfl)) <;> (try (conv=>whnf)))
 all_goals first
  | (refine B5 rfl (congrArg AV.i ?_)
     have he:U2 s.lists k el = chk el.1 el.2:=by rw [U2,if_neg (by assumption)]
     rw [← hI.hit hel (by rw [he];assumption),he,if_neg (by assumption)];done)
  | (refine B5 rfl (congrArg AV.i ?_)
     have he:U2 s.lists k el = 10:=by rw [U2,if_pos (Classical.byContradiction (by assumption)),if_pos (by assumption)]
     rw [← hI.hit hel (by rw [he];decide),he];rfl)
  | exact ⟨k + 1,hI.step hel (by rw [U2,if_pos (Classical.byContradiction (by assumption)),if_neg (by rw [h];exact Bool.false_ne_true)]),by omega,B0 h0 rfl ⟨rfl,rfl,rfl,rfl,trivial⟩ ⟨rfl,trivial⟩ rfl rfl rfl⟩
  | (have hd:=hI.done (by assumption)
     refine B5 rfl (congrArg AV.i ?_)
     rw [if_pos hd,if_neg]
     intro hx
     rw [List.head?_eq_getElem?] at hx
     first
      | (rw [show s.cols[0]? = none from List.getElem?_eq_none (by omega)] at hx;cases hx)
      | (have hel':s.cols[0]? = some el:=hel
         rw [hel'] at hx
         have:=Option.some.inj hx
         exact absurd this (by assumption)))
  | skip
 have hd:=hI.done (by assumption)
 have hh:s.cols.head?.map (·.kind) = some 1:=by
  rw [List.head?_eq_getElem?]
  have hel':s.cols[0]? = some el:=hel
  rw [hel']
  exact congrArg some (Classical.byContradiction (by assumption))
 rw [if_pos hd,if_pos hh]
 refine C2 (ι:=Nat) (fun k=>⟨[(1, .ref 0 0),(52, .i s.cols.length),(53, .i k)],1,[(0,some (.box (sL s)))]⟩) (fun k=>V7 (colE s) s.cols k) (fun k=>s.cols.length - k) 0 (V7.zero _ _) (B0 h0 rfl ⟨rfl,rfl,rfl,trivial⟩ ⟨rfl,trivial⟩ rfl rfl rfl) (fun k hI=>?_)
 have hk:=hI.1
 have hcol:=fun (h:(k:Int) < s.cols.length)=>ND s k (s.cols[k]'(by omega)) (List.getElem?_eq_getElem (by omega))
 repeat' ((first | refine B2 (hcol (by assumption)) ?_ |refine A4 ?_|refine S1 ?_|refine Z1 ?_|refine Z2 ?_|(refine And.intro ?_ ?_<;>intro h<;>try first|(exfalso;omega)|exact absurd rfl h)|refine Z3 ?_|refine Z4 ?_|intro el hel hbB|intro el hel|intro ex|refine Z5 ?_|(refine A9 ?_ ?_;exact ⟨by kernel_rfl,by decide⟩)|refine A8 ?_ ?_|exact A7|refine A6 ?_ ?_|exact A5|(refine A0 ?_ ?_ ?_;kernel_rfl;kernel_rfl)) <;> (try (conv=>whnf)))
 all_goals first
  | exact ⟨k + 1,hI.step (List.getElem?_eq_getElem (by omega)) (Classical.byContradiction (by assumption)),by omega,B0 h0 rfl ⟨rfl,rfl,rfl,trivial⟩ ⟨rfl,trivial⟩ rfl rfl rfl⟩
  | exact B5 rfl (congrArg AV.i (hI.hit (List.getElem?_eq_getElem (by omega)) (by assumption)))
  | exact B5 rfl (congrArg AV.i (hI.done (by assumption)).symm)
theorem J7 {s:C4} (h:H6 s = 0):s.lists.length ≤ 6 ∧ s.cols.length ≤ 8 ∧ (∀ l ∈ s.lists,chk l.1 l.2 = 0) ∧ (∀ (i:Nat) c,s.cols[i]? = some c → colE s i c = 0) ∧ s.cols.head?.map (·.kind) = some 1:=by
 unfold H6 at h
 split at h
 ·cases h
 ·split at h
  ·rename_i h1 h2
   split at h
   ·rename_i h3
    refine ⟨by omega,by omega,fun l hl=>?_,fun i c hc=>by have:=Cb h i c hc;rwa [Nat.zero_add] at this,h3⟩
    obtain ⟨i,hi,rfl⟩:=List.getElem_of_mem hl
    have:=Cb h2 i _ (List.getElem?_eq_getElem hi)
    unfold U2 at this
    split at this
    ·assumption
    ·exact this
   ·cases h
  ·rename_i h2;exact absurd h h2
theorem Df {s:C4} {i:Nat} {c:C5} (h:colE s i c = 0):E7 c.name = true ∧ Cd s i c = false ∧ kindE s i c = 0 ∧ BK c = true:=by
 unfold colE at h
 split at h
 ·cases h
 ·split at h
  ·cases h
  ·split at h
   ·split at h
    ·rename_i h1 h2 h3 h4;exact ⟨by simpa using h1,by simpa using h2,h3,h4⟩
    ·cases h
   ·rename_i h3;exact absurd h h3
theorem Hg {s:C4} {i:Nat} {c:C5} (h:kindE s i c = 0) (hk:c.kind = 2):0 ≤ c.lst ∧ c.lst < s.lists.length:=by
 unfold kindE at h
 rw [if_neg (by omega),if_pos hk] at h
 split at h
 ·cases h
 ·omega
theorem RB {s:C4} {i:Nat} {c:C5} (h:kindE s i c = 0) (hk:c.kind = 3):meaE c = 0:=by
 unfold kindE at h
 rw [if_neg (by omega),if_neg (by omega),if_pos hk] at h
 exact h
theorem GC {s:C4} {i:Nat} {c:C5} (h:kindE s i c = 0):(c.kind = 1 ∧ i = 0) ∨ c.kind = 2 ∨ c.kind = 3:=by
 unfold kindE at h
 split at h
 ·split at h
  ·cases h
  ·left;omega
 ·split at h
  ·omega
  ·split at h
   ·omega
   ·cases h
theorem w8 {c:C5} (h:meaE c = 0):-1000000 ≤ c.low ∧ c.high ≤ 1000000 ∧ c.low ≤ c.high ∧ 1 ≤ c.widths.length ∧ c.widths.length ≤ 4 ∧ T9 c.widths = true:=by
 unfold meaE at h
 split at h
 ·cases h
 ·split at h
  ·cases h
  ·split at h
   ·rename_i h3;exact ⟨by omega,by omega,by omega,by omega,by omega,h3⟩
   ·cases h
theorem Lf:∀ (ws:List Int) (last:Int),1 ≤ last → last ≤ 1000000 → Ap last ws = true → ∀ w ∈ ws,1 ≤ w ∧ w ≤ 1000000
 | [],_,_,_,_,w,hw=>by cases hw
 | x :: r,last,h1,h2,h,w,hw=>by
   simp only [Ap,Bool.and_eq_true,decide_eq_true_eq] at h
   rcases List.mem_cons.1 hw with rfl | hw
   ·omega
   ·exact Lf r x (by omega) (by omega) h.2 w hw
theorem CG {ws:List Int} (h:T9 ws = true):∀ w ∈ ws,1 ≤ w ∧ w ≤ 1000000:=by
 cases ws with
 | nil=>intro w hw;cases hw
 | cons x r =>
   simp only [T9,Bool.and_eq_true,decide_eq_true_eq] at h
   intro w hw
   rcases List.mem_cons.1 hw with rfl | hw
   ·omega
   ·exact Lf r 1 (by omega) (by omega) h.2 w hw
def E4 (s:C4) (c:C5):CL:=s.lists.getD c.lst.toNat ([],[])
def P2 (s:C4) (c:C5) (v:Int):Bool :=
 if c.kind = 1 then decide (1 ≤ v ∧ v ≤ 1048575) else if c.kind = 2 then decide (0 ≤ v ∧ v < (E4 s c).2.length) && Q3 (E4 s c).2 v else decide (c.low ≤ v ∧ v ≤ c.high) || (c.opt && decide (v = (-1099511627776)))
theorem U3 {α:Type} {l:List α} {k:Nat} {x d:α} (h:l[k]? = some x):l.getD k d = x:=by rw [List.getD_eq_getElem?_getD,h];rfl
theorem V9 {s:C4} {c:C5} {l:CL} (h:s.lists[c.lst.toNat]? = some l):E4 s c = l:=U3 h
set_option maxHeartbeats 2000000 in
theorem Lg (l:List (Code)) (f:Nat) (caps:List AV) (p:(Code) → Bool) (hf:∀ x ∈ l,B4 Tryz.prog f ((fun x=>.agg (cA x)) x :: caps) (.b (p x))):B4 Tryz.prog 109 [.sl 2 (l.map cA), .fn f caps] (.i (I5 p l 0)):=by
 refine F3 Tryz.func109 19 fun hrd E h0=>?_
 have hlen:l.length ≤ 9223372036854775807:=by have:=(hrd (.sl 2 (l.map cA)) (by simp)).sl;simpa using this
 repeat' ((first|refine A4 ?_|refine S1 ?_|refine Z1 ?_|refine Z2 ?_|(refine And.intro ?_ ?_<;>intro h<;>try first|(exfalso;omega)|exact absurd rfl h)|refine Z3 ?_|refine Z4 ?_|intro el hel hbB|intro el hel|intro ex|refine Z5 ?_|(refine A9 ?_ ?_;exact ⟨by kernel_rfl,by decide⟩)|refine A8 ?_ ?_|exact A7|refine A6 ?_ ?_|exact A5|(refine A0 ?_ ?_ ?_;kernel_rfl;kernel_rfl)) <;> (try (conv=>whnf)))
 refine C2 (ι:=Nat) (fun k=>⟨[(0, .sl 2 (l.map cA)),(1, .fn f caps),(7, .i l.length),(8, .i k)],0,[]⟩) (fun k=>k ≤ l.length ∧ I5 p l 0 = I5 p (l.drop k) k) (fun k=>l.length - k) 0 ⟨Nat.zero_le _,rfl⟩ (B0 h0 rfl ⟨rfl,rfl,rfl,rfl,trivial⟩ trivial rfl rfl rfl) (fun k hI=>?_)
 obtain ⟨hk,hI⟩:=hI
 repeat' ((first | refine B2 (hf _ (List.mem_of_getElem? hel)) ?_ |refine A4 ?_|refine S1 ?_|refine Z1 ?_|refine Z2 ?_|(refine And.intro ?_ ?_<;>intro h<;>try first|(exfalso;omega)|exact absurd rfl h)|refine Z3 ?_|refine Z4 ?_|intro el hel hbB|intro el hel|intro ex|refine Z5 ?_|(refine A9 ?_ ?_;exact ⟨by kernel_rfl,by decide⟩)|refine A8 ?_ ?_|exact A7|refine A6 ?_ ?_|exact A5|(refine A0 ?_ ?_ ?_;kernel_rfl;kernel_rfl)) <;> (try (conv=>whnf)))
 all_goals first
  | exact ⟨k + 1,⟨by omega,by rw [hI,S3 hel,I5,if_neg (by simp [h])];rfl⟩,by omega,B0 h0 rfl ⟨rfl,rfl,rfl,rfl,trivial⟩ trivial rfl rfl rfl⟩
  | exact B5 rfl (congrArg AV.i (by rw [hI,S3 hel,I5,if_pos (by simp [h])]))
  | exact B5 rfl (congrArg AV.i (by rw [hI,show k = l.length by omega,List.drop_length];rfl))
set_option maxHeartbeats 2000000 in
theorem TU (l:List (Code)) (f:Nat) (caps:List AV) (p:(Code) → Bool) (hf:∀ x ∈ l,B4 Tryz.prog f ((fun x=>.agg (cA x)) x :: caps) (.b (p x))):B4 Tryz.prog 86 [.sl 2 (l.map cA), .fn f caps] (.b (l.any p)):=by
 refine F3 Tryz.func86 9 fun hrd E h0=>?_
 have hidx:=Lg l f caps p hf
 repeat' ((first | refine B2 hidx ?_ |refine A4 ?_|refine S1 ?_|refine Z1 ?_|refine Z2 ?_|(refine And.intro ?_ ?_<;>intro h<;>try first|(exfalso;omega)|exact absurd rfl h)|refine Z3 ?_|refine Z4 ?_|intro el hel hbB|intro el hel|intro ex|refine Z5 ?_|(refine A9 ?_ ?_;exact ⟨by kernel_rfl,by decide⟩)|refine A8 ?_ ?_|exact A7|refine A6 ?_ ?_|exact A5|(refine A0 ?_ ?_ ?_;kernel_rfl;kernel_rfl)) <;> (try (conv=>whnf)))
 all_goals first
  | exact B5 rfl (congrArg AV.b (AN p l 0 (by omega)))
theorem PE (x:Code) (v:Int):B4 Tryz.prog 87 [.agg (cA x), .iptr [.i v]] (.b (decide (x.parent = v))):=by
 refine F3 Tryz.func87 8 fun hrd E h0=>?_
 repeat' ((first|refine A4 ?_|refine S1 ?_|refine Z1 ?_|refine Z2 ?_|(refine And.intro ?_ ?_<;>intro h<;>try first|(exfalso;omega)|exact absurd rfl h)|refine Z3 ?_|refine Z4 ?_|intro el hel hbB|intro el hel|intro ex|refine Z5 ?_|(refine A9 ?_ ?_;exact ⟨by kernel_rfl,by decide⟩)|refine A8 ?_ ?_|exact A7|refine A6 ?_ ?_|exact A5|(refine A0 ?_ ?_ ?_;kernel_rfl;kernel_rfl)) <;> (try (conv=>whnf)))
 all_goals exact B5 rfl rfl
theorem Dg (cs:List Code) (v:Int):Q3 cs v = !(cs.any fun x=>decide (x.parent = v)):=by
 rw [List.not_any_eq_all_not]
 unfold Q3
 congr
 funext x
 simp
set_option maxHeartbeats 4000000 in
theorem RC (s:C4) (c:C5) (v:Int) (hc:c.kind = 2 → 0 ≤ c.lst ∧ c.lst < s.lists.length):B4 Tryz.prog 59 [sA s,M4 c, .i v] (.b (P2 s c v)):=by
 refine F3 Tryz.func59 59 fun hrd E h0=>?_
 have hany:=fun cs:List Code=>TU cs 87 [.iptr [.i v]] (fun x=>decide (x.parent = v)) (fun x _=>PE x v)
 obtain ⟨hl1,hl2,hl3⟩:=p9 (s:=s) (hrd _ (by simp))
 clear hrd
 repeat' ((first | refine B2 (hany _) ?_ | refine P8 2 ?_ | (refine DN ?_ ?_ (fun el hel=>?_);(have:=hc (by assumption);omega);(have:=hc (by assumption);omega)) |refine A4 ?_|refine S1 ?_|refine Z1 ?_|refine Z2 ?_|(refine And.intro ?_ ?_<;>intro h<;>try first|(exfalso;omega)|exact absurd rfl h)|refine Z3 ?_|refine Z4 ?_|intro el hel hbB|intro el hel|intro ex|refine Z5 ?_|(refine A9 ?_ ?_;exact ⟨by kernel_rfl,by decide⟩)|refine A8 ?_ ?_|exact A7|refine A6 ?_ ?_|exact A5|(refine A0 ?_ ?_ ?_;kernel_rfl;kernel_rfl)) <;> (try (conv=>whnf)))
 all_goals first
  | (refine B5 rfl (congrArg AV.b ?_);clear hany hl1 hl2 hl3 hc h0 E;(first | (simp only [P2,Dg, *,if_true,if_false,Bool.true_eq_false,Bool.false_eq_true,or_true,or_false,true_or,false_or,and_true,true_and,and_false,false_and,not_true_eq_false,not_false_eq_true,ne_eq,reduceIte,Int.reduceEq,Int.reduceLT,Int.reduceLE,Int.reduceNeg,decide_true,decide_false,Bool.not_true,Bool.not_false,Bool.and_true,Bool.true_and,Bool.and_false,Bool.false_and,Bool.or_true,Bool.true_or,Bool.or_false,Bool.false_or,Option.some.injEq];done) | (simp only [P2,Dg, *,if_true,if_false,Bool.true_eq_false,Bool.false_eq_true,not_true_eq_false,not_false_eq_true,ne_eq,reduceIte,Int.reduceEq];first | rfl | (repeat' split) <;> first | rfl | omega | (exfalso;omega) | contradiction)))
  | (refine B5 rfl (congrArg AV.b ?_);clear hany hl1 hl2 hl3 hc h0 E;have he:=V9 hel;(first | (simp only [P2,Dg,he, *,if_true,if_false,Bool.true_eq_false,Bool.false_eq_true,or_true,or_false,true_or,false_or,and_true,true_and,and_false,false_and,not_true_eq_false,not_false_eq_true,ne_eq,reduceIte,Int.reduceEq,Int.reduceLT,Int.reduceLE,Int.reduceNeg,decide_true,decide_false,Bool.not_true,Bool.not_false,Bool.and_true,Bool.true_and,Bool.and_false,Bool.false_and,Bool.or_true,Bool.true_or,Bool.or_false,Bool.false_or,Option.some.injEq];done) | (simp only [P2,Dg,he, *,if_true,if_false,Bool.true_eq_false,Bool.false_eq_true,not_true_eq_false,not_false_eq_true,ne_eq,reduceIte,Int.reduceEq];first | rfl | (repeat' split) <;> first | rfl | omega | (exfalso;omega) | contradiction)))
structure Lh (s:C4):Prop where
 e:H6 s = 0
theorem Lh.lst {s:C4} (h:H6 s = 0) {c:C5} (hc:c ∈ s.cols) (hk:c.kind = 2):0 ≤ c.lst ∧ c.lst < s.lists.length:=by
 obtain ⟨i,hi,rfl⟩:=List.getElem_of_mem hc
 exact Hg (Df ((J7 h).2.2.2.1 i _ (List.getElem?_eq_getElem hi))).2.2.1 hk
def w9 (s:C4) (p:C5 × Int):Bool:=!(P2 s p.1 p.2)
def J8 (s:C4) (row:List Int):Bool:=decide (row.length = s.cols.length) && !((s.cols.zip row).any (w9 s))
theorem BS {α β:Type} {l:List α} {m:List β} {k:Nat} {x:α} {y:β} (h:l[k]? = some x) (h2:m[k]? = some y):(l.zip m)[k]? = some (x,y):=by
 rw [List.getElem?_zip_eq_some];exact ⟨h,h2⟩
set_option maxHeartbeats 4000000 in
theorem Li (s:C4) (row:List Int) (hr:H6 s = 0):B4 Tryz.prog 26 [sA s, .sl 1 (row.map wA)] (.b (J8 s row)):=by
 refine F3 Tryz.func26 30 fun hrd E h0=>?_
 obtain ⟨hl1,hl2,hl3⟩:=p9 (s:=s) (hrd _ (by simp))
 clear hrd
 repeat' ((first|refine A4 ?_|refine S1 ?_|refine Z1 ?_|refine Z2 ?_|(refine And.intro ?_ ?_<;>intro h<;>try first|(exfalso;omega)|exact absurd rfl h)|refine Z3 ?_|refine Z4 ?_|intro el hel hbB|intro el hel|intro ex|refine Z5 ?_|(refine A9 ?_ ?_;exact ⟨by kernel_rfl,by decide⟩)|refine A8 ?_ ?_|exact A7|refine A6 ?_ ?_|exact A5|(refine A0 ?_ ?_ ?_;kernel_rfl;kernel_rfl)) <;> (try (conv=>whnf)))
 ·exact B5 rfl (congrArg AV.b (by rw [J8,decide_eq_false (by omega)];rfl))
 have hlen:=h
 clear h
 have hz:(s.cols.zip row).length = s.cols.length:=by rw [List.length_zip];omega
 have hfb:J8 s row = !((s.cols.zip row).any (w9 s)):=by rw [J8,decide_eq_true (by omega)];rfl
 rw [hfb]
 refine C2 (ι:=Nat) (fun k=>⟨[(1, .sl 1 (row.map wA)),(2, .ref 0 0),(14, .sl 7 (s.cols.map C0)),(15, .i s.cols.length),(16, .i k)],1,[(0,some (.box (sL s)))]⟩) (fun k=>V8 (w9 s) (s.cols.zip row) k) (fun k=>s.cols.length - k) 0 (V8.zero _ _) (B0 h0 rfl ⟨rfl,rfl,rfl,rfl,rfl,trivial⟩ ⟨rfl,trivial⟩ rfl rfl rfl) (fun k hI=>?_)
 have hk:=hI.1
 have hfit:=fun (c:C5) (v:Int) (hc:s.cols[k]? = some c)=>RC s c v (fun hk=>Lh.lst hr (List.mem_of_getElem? hc) hk)
 repeat' ((first | refine B2 (hfit _ _ (by assumption)) ?_ | (refine E3 ?_ ?_;kernel_rfl) |refine A4 ?_|refine S1 ?_|refine Z1 ?_|refine Z2 ?_|(refine And.intro ?_ ?_<;>intro h<;>try first|(exfalso;omega)|exact absurd rfl h)|refine Z3 ?_|refine Z4 ?_|intro el hel hbB|intro el hel|intro ex|refine Z5 ?_|(refine A9 ?_ ?_;exact ⟨by kernel_rfl,by decide⟩)|refine A8 ?_ ?_|exact A7|refine A6 ?_ ?_|exact A5|(refine A0 ?_ ?_ ?_;kernel_rfl;kernel_rfl)) <;> (try (conv=>whnf)))
 all_goals first
  | (refine B5 rfl (congrArg AV.b ?_)
     rw [← hI.hit (BS (by assumption) hel) (by simp only [w9, *];rfl)];rfl)
  | exact ⟨k + 1,hI.step (BS (by assumption) hel) (by simp only [w9, *];rfl),by omega,B0 h0 rfl ⟨rfl,rfl,rfl,rfl,rfl,trivial⟩ ⟨rfl,trivial⟩ rfl rfl rfl⟩
  | (refine B5 rfl (congrArg AV.b ?_)
     rw [← hI.done (by omega)];rfl)
def Ce (s:C4) (row:List Int):Int:=if H6 s = 0 then (if J8 s row = true then 0 else 9) else H6 s
def I7 (s:C4) (column:Int):C5:=s.cols.getD column.toNat ⟨[],0,0,0,0,[],false⟩
theorem u1 {s:C4} {column:Int} {c:C5} (h:s.cols[column.toNat]? = some c):I7 s column = c:=U3 h
def GX (s:C4) (c:C5):Int:=if c.kind = 2 then F4 (E4 s c).1 (E4 s c).2 - 1 else c.widths.length
def PF (s:C4) (column:Int):Int:=if column < 1 ∨ (s.cols.length:Int) ≤ column then -1 else GX s (I7 s column)
def Nm (s:C4) (column:Int):Int:=if H6 s = 0 then PF s column else -1
theorem Hh {nm:List UInt8} {cs:List Code} (h:cs.length ≤ 9223372036854775807):-1 ≤ F4 nm cs ∧ F4 nm cs ≤ 61:=by
 unfold F4
 split
 ·rename_i h1
  have h2:=M3 h1
  have h3:=Lb (cs:=cs) h2.1.before
  omega
 ·omega
def E6 (c:C5) (level:Int):Int:=c.widths.getD ((c.widths.length:Int) - level).toNat 0
def E8 (n w:Int):Int:=n - n % w
theorem q0 (n:Int) {w:Int} (hw:1 ≤ w):n - w < E8 n w ∧ E8 n w ≤ n:=by
 unfold E8
 have h1:=Int.emod_nonneg n (b:=w) (by omega)
 have h2:=Int.emod_lt_of_pos n (b:=w) (by omega)
 omega
theorem PG {a b w:Int} (hw:1 ≤ w) (h:a ≤ b):E8 a w ≤ E8 b w:=by
 unfold E8
 have e1:a - a % w = w * (a / w):=by have:=Int.mul_ediv_add_emod a w;omega
 have e2:b - b % w = w * (b / w):=by have:=Int.mul_ediv_add_emod b w;omega
 rw [e1,e2]
 exact Int.mul_le_mul_of_nonneg_left (Int.ediv_le_ediv (by omega) h) (by omega)
def l7 (s:C4) (c:C5) (level:Int):Int :=
 if c.kind = 2 then (O3 (E4 s c).1 (E4 s c).2 level).length else if level = 0 then 1 else (E8 c.high (E6 c level) - E8 c.low (E6 c level)) / E6 c level + 1 + (if c.opt = true then 1 else 0)
end Go.Proofs.YtiphlhoclaogjabGreatDoor
