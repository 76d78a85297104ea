/- Chapter 2: schemas, and which are right. Chapter 2: which values fit, levels, coarse values. Chapter 2: rows, columns with a name, levels. Chapter 2: blocks, the least level, coarse values, values turned to another level. -/
import Derived.Test.YthkklceofokkmaaGreatDoorBB4
import Derived.Test.YthkklceofokkmaaGreatDoorBB5
set_option linter.unusedVariables false
set_option linter.unnecessarySimpa false
set_option linter.unusedSimpArgs false
namespace Go.Proofs.YthkklceofokkmaaGreatDoor
open Go Go.Av
attribute [local irreducible] E5 B7 E6 E7 DQ E8 F0 St.le B3 B5
set_option maxRecDepth 100000
structure G9 where
 name:List UInt8
 kind:Int
 lst:Int
 low:Int
 high:Int
 widths:List Int
 opt:Bool
deriving DecidableEq
abbrev CL:=List UInt8 × List Code
structure B2 where
 lists:List CL
 cols:List G9
abbrev wA (w:Int):List AV:=[.i w]
abbrev L5 (c:G9):List AV:=[.str c.name, .i c.kind, .i c.lst, .i c.low, .i c.high, .sl 1 (c.widths.map wA), .b c.opt]
abbrev O7 (l:CL):List AV:=[.str l.1, .sl 2 (l.2.map cA)]
abbrev sL (s:B2):List AV:=[.sl 2 (s.lists.map O7), .sl 7 (s.cols.map L5)]
abbrev sA (s:B2):AV:=.agg (sL s)
abbrev FD (c:G9):AV:=.agg (L5 c)
abbrev cw (l:CL):AV:=.agg (O7 l)
def Fb:Int → List Int → Bool
 | _,[]=>true
 | last,w :: r=>decide (last < w) && decide (w.tmod last = 0) && decide (w ≤ 1000000) && Fb w r
def f5:List Int → Bool
 | []=>true
 | w :: r=>decide (w = 1) && Fb 1 r
def meaE (c:G9):Int:=if c.low < -1000000 ∨ 1000000 < c.high ∨ c.high < c.low then 2 else if c.widths.length = 0 ∨ 4 < c.widths.length then 1 else if f5 c.widths = true then 0 else 2
def Dk (c:G9):Bool:=decide (¬ (c.kind ≠ 2 ∧ c.lst ≠ 0) ∧ (c.kind = 3 ∨ c.low = 0 ∧ c.high = 0 ∧ c.widths.length = 0 ∧ c.opt = false))
def kindE (s:B2) (i:Nat) (c:G9):Int :=
 if c.kind = 1 then (if (0:Int) < (i:Int) then 4 else 0) else if c.kind = 2 then (if c.lst < 0 ∨ (s.lists.length:Int) ≤ c.lst then 5 else 0) else if c.kind = 3 then meaE c else 4
def DT (s:B2) (i:Nat) (c:G9):Bool:=(s.cols.take i).any fun x=>decide (x.name = c.name)
def colE (s:B2) (i:Nat) (c:G9):Int :=
 if C9 c.name = false then 3 else if DT s i c = true then 10 else if kindE s i c = 0 then (if Dk c = true then 0 else 11) else kindE s i c
def a8 (ls:List CL) (i:Nat) (l:CL):Int:=if chk l.1 l.2 = 0 then (if ((ls.take i).any fun x=>decide (x.1 = l.1)) = true then 10 else 0) else chk l.1 l.2
def C8 (s:B2):Int :=
 if 6 < s.lists.length ∨ 8 < s.cols.length then 1 else if I2 (a8 s.lists) 0 s.lists = 0 then
  (if s.cols.head?.map (·.kind) = some 1 then I2 (colE s) 0 s.cols else 7) else I2 (a8 s.lists) 0 s.lists
def CU (ws:List Int) (k:Nat) (last:Int):Prop:=k ≤ ws.length ∧ ((k = 0 ∧ last = 1) ∨ (0 < k ∧ 1 ≤ last ∧ f5 ws = Fb last (ws.drop k)))
theorem CU.pos {ws:List Int} {k:Nat} {last:Int} (h:CU ws k last):1 ≤ last:=by rcases h.2 with h | h <;> omega
theorem CU.first {ws:List Int} {k:Nat} {last w:Int} (h:CU ws k last) (hw:ws[k]? = some w) (hk:k = 0) (h1:w = 1):CU ws (k + 1) w:=by
 subst hk h1
 refine ⟨Q0 hw, .inr ⟨by omega,by omega,?_⟩⟩
 have:ws = 1 :: ws.drop 1:=by have:=M9 hw;simpa using this
 rw [this];simp [f5]
theorem CU.next {ws:List Int} {k:Nat} {last w:Int} (h:CU ws k last) (hw:ws[k]? = some w) (hk:0 < k) (h1:last < w) (h2:w.tmod last = 0) (h3:w ≤ 1000000):CU ws (k + 1) w:=by
 rcases h.2 with h | h
 ·omega
 ·refine ⟨Q0 hw, .inr ⟨by omega,by omega,?_⟩⟩
  rw [h.2.2,M9 hw];simp [Fb,h1,h2,h3]
theorem CU.bad0 {ws:List Int} {k:Nat} {last w:Int} (h:CU ws k last) (hw:ws[k]? = some w) (hk:k = 0) (h1:¬ w = 1):f5 ws = false:=by
 subst hk
 have:ws = w :: ws.drop 1:=by have:=M9 hw;simpa using this
 rw [this];simp [f5,h1]
theorem CU.bad {ws:List Int} {k:Nat} {last w:Int} (h:CU ws k last) (hw:ws[k]? = some w) (hk:0 < k) (h1:¬ (last < w ∧ w.tmod last = 0 ∧ w ≤ 1000000)):f5 ws = false:=by
 rcases h.2 with h | h
 ·omega
 ·rw [h.2.2,M9 hw]
  simp only [Fb,Bool.and_eq_false_iff,decide_eq_false_iff_not]
  omega
theorem CU.done {ws:List Int} {k:Nat} {last:Int} (h:CU ws k last) (hk:¬ (k:Int) < ws.length) (hn:ws.length ≠ 0):f5 ws = true:=by
 rcases h.2 with h2 | h2
 ·omega
 ·rw [h2.2.2,AW hk];rfl
set_option maxHeartbeats 4000000 in
theorem PG (c:G9):B3 Tryz.prog 116 [FD c] (.i (meaE c)):=by
 refine F7 Tryz.func116 68 fun hrd E h0=>?_
 have hlen:c.widths.length ≤ 9223372036854775807:=by
  have:=((hrd (FD c) (by simp)).agg (.sl 1 (c.widths.map wA)) (by simp)).sl
  simpa using this
 repeat' ((first|refine A1 ?_|refine S1 ?_|refine Z1 ?_|refine Z2 ?_|(refine And.intro ?_ ?_<;>intro h<;>try first|(exfalso;omega)|exact absurd rfl h)|refine Z3 ?_|refine Z4 ?_|intro el hel hbB|intro el hel|intro ex|refine Z5 ?_|(refine A8 ?_ ?_;exact ⟨by kernel_rfl,by decide⟩)|refine A7 ?_ ?_|exact A6|refine A3 ?_ ?_|exact A2|(refine A0 ?_ ?_ ?_;kernel_rfl;kernel_rfl)) <;> (try (conv=>whnf)))
 all_goals first
  | exact A9 rfl (congrArg AV.i (by rw [meaE,if_pos (by omega)]))
  | exact A9 rfl (congrArg AV.i (by rw [meaE,if_neg (by omega),if_pos (by omega)]))
  | skip
 have hm:meaE c = if f5 c.widths = true then 0 else 2:=by rw [meaE,if_neg (by omega),if_neg (by omega)]
 have hne:c.widths.length ≠ 0:=by omega
 rw [hm]
 refine D8 (ι:=Nat × Int) (fun x=>⟨[(3, .i x.2),(34, .sl 1 (c.widths.map wA)),(35, .i c.widths.length),(36, .i x.1)],0,[]⟩) (fun x=>CU c.widths x.1 x.2) (fun x=>c.widths.length - x.1) (0,1) ⟨Nat.zero_le _, .inl ⟨rfl,rfl⟩⟩ (A5 h0 rfl ⟨rfl,rfl,rfl,rfl,trivial⟩ trivial rfl rfl rfl) (fun x hI=>?_)
 obtain ⟨k,last⟩:=x
 have hp:=hI.pos
 have hk:=hI.1
 dsimp only at hI hp hk ⊢
 repeat' ((first|refine A1 ?_|refine S1 ?_|refine Z1 ?_|refine Z2 ?_|(refine And.intro ?_ ?_<;>intro h<;>try first|(exfalso;omega)|exact absurd rfl h)|refine Z3 ?_|refine Z4 ?_|intro el hel hbB|intro el hel|intro ex|refine Z5 ?_|(refine A8 ?_ ?_;exact ⟨by kernel_rfl,by decide⟩)|refine A7 ?_ ?_|exact A6|refine A3 ?_ ?_|exact A2|(refine A0 ?_ ?_ ?_;kernel_rfl;kernel_rfl)) <;> (try (conv=>whnf)))
 all_goals first
  | exact A9 rfl (congrArg AV.i (by rw [hI.bad0 hel (by omega) (by omega)];rfl))
  | exact A9 rfl (congrArg AV.i (by rw [hI.bad hel (by omega) (fun hx=>by first | exact absurd hx.2.1 (by assumption) | omega)];rfl))
  | exact A9 rfl (congrArg AV.i (by rw [hI.done (by assumption) hne];rfl))
  | exact ⟨(k + 1,el),hI.first hel (by omega) (by omega),by simp only;omega,A5 h0 rfl ⟨rfl,rfl,rfl,rfl,trivial⟩ trivial rfl rfl rfl⟩
  | exact ⟨(k + 1,el),hI.next hel (by omega) (by omega) (Classical.byContradiction (by assumption)) (by omega),by simp only;omega,A5 h0 rfl ⟨rfl,rfl,rfl,rfl,trivial⟩ trivial rfl rfl rfl⟩
theorem RB (c:G9):B3 Tryz.prog 117 [FD c] (.b (Dk c)):=by
 refine F7 Tryz.func117 35 fun hrd E h0=>?_
 repeat' ((first|refine A1 ?_|refine S1 ?_|refine Z1 ?_|refine Z2 ?_|(refine And.intro ?_ ?_<;>intro h<;>try first|(exfalso;omega)|exact absurd rfl h)|refine Z3 ?_|refine Z4 ?_|intro el hel hbB|intro el hel|intro ex|refine Z5 ?_|(refine A8 ?_ ?_;exact ⟨by kernel_rfl,by decide⟩)|refine A7 ?_ ?_|exact A6|refine A3 ?_ ?_|exact A2|(refine A0 ?_ ?_ ?_;kernel_rfl;kernel_rfl)) <;> (try (conv=>whnf)))
 all_goals first
  | exact A9 rfl (congrArg AV.b (by simp_all [Dk]))
set_option maxHeartbeats 2000000 in
theorem Rq (l:List (G9)) (f:Nat) (caps:List AV) (p:(G9) → Bool) (hf:∀ x ∈ l,B3 Tryz.prog f ((fun x=>FD x) x :: caps) (.b (p x))):B3 Tryz.prog 158 [.sl 7 (l.map L5), .fn f caps] (.i (K2 p l 0)):=by
 refine F7 Tryz.func158 19 fun hrd E h0=>?_
 have hlen:l.length ≤ 9223372036854775807:=by have:=(hrd (.sl 7 (l.map L5)) (by simp)).sl;simpa using this
 repeat' ((first|refine A1 ?_|refine S1 ?_|refine Z1 ?_|refine Z2 ?_|(refine And.intro ?_ ?_<;>intro h<;>try first|(exfalso;omega)|exact absurd rfl h)|refine Z3 ?_|refine Z4 ?_|intro el hel hbB|intro el hel|intro ex|refine Z5 ?_|(refine A8 ?_ ?_;exact ⟨by kernel_rfl,by decide⟩)|refine A7 ?_ ?_|exact A6|refine A3 ?_ ?_|exact A2|(refine A0 ?_ ?_ ?_;kernel_rfl;kernel_rfl)) <;> (try (conv=>whnf)))
 refine D8 (ι:=Nat) (fun k=>⟨[(0, .sl 7 (l.map L5)),(1, .fn f caps),(7, .i l.length),(8, .i k)],0,[]⟩) (fun k=>k ≤ l.length ∧ K2 p l 0 = K2 p (l.drop k) k) (fun k=>l.length - k) 0 ⟨Nat.zero_le _,rfl⟩ (A5 h0 rfl ⟨rfl,rfl,rfl,rfl,trivial⟩ trivial rfl rfl rfl) (fun k hI=>?_)
 obtain ⟨hk,hI⟩:=hI
 repeat' ((first | refine B0 (hf _ (List.mem_of_getElem? hel)) ?_ |refine A1 ?_|refine S1 ?_|refine Z1 ?_|refine Z2 ?_|(refine And.intro ?_ ?_<;>intro h<;>try first|(exfalso;omega)|exact absurd rfl h)|refine Z3 ?_|refine Z4 ?_|intro el hel hbB|intro el hel|intro ex|refine Z5 ?_|(refine A8 ?_ ?_;exact ⟨by kernel_rfl,by decide⟩)|refine A7 ?_ ?_|exact A6|refine A3 ?_ ?_|exact A2|(refine A0 ?_ ?_ ?_;kernel_rfl;kernel_rfl)) <;> (try (conv=>whnf)))
 all_goals first
  | exact ⟨k + 1,⟨by omega,by rw [hI,M9 hel,K2,if_neg (by simp [h])];rfl⟩,by omega,A5 h0 rfl ⟨rfl,rfl,rfl,rfl,trivial⟩ trivial rfl rfl rfl⟩
  | exact A9 rfl (congrArg AV.i (by rw [hI,M9 hel,K2,if_pos (by simp [h])]))
  | exact A9 rfl (congrArg AV.i (by rw [hI,show k = l.length by omega,List.drop_length];rfl))
set_option maxHeartbeats 2000000 in
theorem aU (l:List (G9)) (f:Nat) (caps:List AV) (p:(G9) → Bool) (hf:∀ x ∈ l,B3 Tryz.prog f ((fun x=>FD x) x :: caps) (.b (p x))):B3 Tryz.prog 114 [.sl 7 (l.map L5), .fn f caps] (.b (l.any p)):=by
 refine F7 Tryz.func114 9 fun hrd E h0=>?_
 have hidx:=Rq l f caps p hf
 repeat' ((first | refine B0 hidx ?_ |refine A1 ?_|refine S1 ?_|refine Z1 ?_|refine Z2 ?_|(refine And.intro ?_ ?_<;>intro h<;>try first|(exfalso;omega)|exact absurd rfl h)|refine Z3 ?_|refine Z4 ?_|intro el hel hbB|intro el hel|intro ex|refine Z5 ?_|(refine A8 ?_ ?_;exact ⟨by kernel_rfl,by decide⟩)|refine A7 ?_ ?_|exact A6|refine A3 ?_ ?_|exact A2|(refine A0 ?_ ?_ ?_;kernel_rfl;kernel_rfl)) <;> (try (conv=>whnf)))
 all_goals first
  | exact A9 rfl (congrArg AV.b (Ch p l 0 (by omega)))
set_option maxHeartbeats 2000000 in
theorem cy (l:List (CL)) (f:Nat) (caps:List AV) (p:(CL) → Bool) (hf:∀ x ∈ l,B3 Tryz.prog f ((fun x=>cw x) x :: caps) (.b (p x))):B3 Tryz.prog 113 [.sl 2 (l.map O7), .fn f caps] (.i (K2 p l 0)):=by
 refine F7 Tryz.func113 19 fun hrd E h0=>?_
 have hlen:l.length ≤ 9223372036854775807:=by have:=(hrd (.sl 2 (l.map O7)) (by simp)).sl;simpa using this
 repeat' ((first|refine A1 ?_|refine S1 ?_|refine Z1 ?_|refine Z2 ?_|(refine And.intro ?_ ?_<;>intro h<;>try first|(exfalso;omega)|exact absurd rfl h)|refine Z3 ?_|refine Z4 ?_|intro el hel hbB|intro el hel|intro ex|refine Z5 ?_|(refine A8 ?_ ?_;exact ⟨by kernel_rfl,by decide⟩)|refine A7 ?_ ?_|exact A6|refine A3 ?_ ?_|exact A2|(refine A0 ?_ ?_ ?_;kernel_rfl;kernel_rfl)) <;> (try (conv=>whnf)))
 refine D8 (ι:=Nat) (fun k=>⟨[(0, .sl 2 (l.map O7)),(1, .fn f caps),(7, .i l.length),(8, .i k)],0,[]⟩) (fun k=>k ≤ l.length ∧ K2 p l 0 = K2 p (l.drop k) k) (fun k=>l.length - k) 0 ⟨Nat.zero_le _,rfl⟩ (A5 h0 rfl ⟨rfl,rfl,rfl,rfl,trivial⟩ trivial rfl rfl rfl) (fun k hI=>?_)
 obtain ⟨hk,hI⟩:=hI
 repeat' ((first | refine B0 (hf _ (List.mem_of_getElem? hel)) ?_ |refine A1 ?_|refine S1 ?_|refine Z1 ?_|refine Z2 ?_|(refine And.intro ?_ ?_<;>intro h<;>try first|(exfalso;omega)|exact absurd rfl h)|refine Z3 ?_|refine Z4 ?_|intro el hel hbB|intro el hel|intro ex|refine Z5 ?_|(refine A8 ?_ ?_;exact ⟨by kernel_rfl,by decide⟩)|refine A7 ?_ ?_|exact A6|refine A3 ?_ ?_|exact A2|(refine A0 ?_ ?_ ?_;kernel_rfl;kernel_rfl)) <;> (try (conv=>whnf)))
 all_goals first
  | exact ⟨k + 1,⟨by omega,by rw [hI,M9 hel,K2,if_neg (by simp [h])];rfl⟩,by omega,A5 h0 rfl ⟨rfl,rfl,rfl,rfl,trivial⟩ trivial rfl rfl rfl⟩
  | exact A9 rfl (congrArg AV.i (by rw [hI,M9 hel,K2,if_pos (by simp [h])]))
  | exact A9 rfl (congrArg AV.i (by rw [hI,show k = l.length by omega,List.drop_length];rfl))
set_option maxHeartbeats 2000000 in
theorem cz (l:List (CL)) (f:Nat) (caps:List AV) (p:(CL) → Bool) (hf:∀ x ∈ l,B3 Tryz.prog f ((fun x=>cw x) x :: caps) (.b (p x))):B3 Tryz.prog 65 [.sl 2 (l.map O7), .fn f caps] (.b (l.any p)):=by
 refine F7 Tryz.func65 9 fun hrd E h0=>?_
 have hidx:=cy l f caps p hf
 repeat' ((first | refine B0 hidx ?_ |refine A1 ?_|refine S1 ?_|refine Z1 ?_|refine Z2 ?_|(refine And.intro ?_ ?_<;>intro h<;>try first|(exfalso;omega)|exact absurd rfl h)|refine Z3 ?_|refine Z4 ?_|intro el hel hbB|intro el hel|intro ex|refine Z5 ?_|(refine A8 ?_ ?_;exact ⟨by kernel_rfl,by decide⟩)|refine A7 ?_ ?_|exact A6|refine A3 ?_ ?_|exact A2|(refine A0 ?_ ?_ ?_;kernel_rfl;kernel_rfl)) <;> (try (conv=>whnf)))
 all_goals first
  | exact A9 rfl (congrArg AV.b (Ch p l 0 (by omega)))
theorem PH (x c:G9):B3 Tryz.prog 115 [FD x, .iptr (L5 c)] (.b (decide (x.name = c.name))):=by
 refine F7 Tryz.func115 9 fun hrd E h0=>?_
 repeat' ((first|refine A1 ?_|refine S1 ?_|refine Z1 ?_|refine Z2 ?_|(refine And.intro ?_ ?_<;>intro h<;>try first|(exfalso;omega)|exact absurd rfl h)|refine Z3 ?_|refine Z4 ?_|intro el hel hbB|intro el hel|intro ex|refine Z5 ?_|(refine A8 ?_ ?_;exact ⟨by kernel_rfl,by decide⟩)|refine A7 ?_ ?_|exact A6|refine A3 ?_ ?_|exact A2|(refine A0 ?_ ?_ ?_;kernel_rfl;kernel_rfl)) <;> (try (conv=>whnf)))
 all_goals exact A9 rfl rfl
theorem Nc (x l:CL):B3 Tryz.prog 66 [cw x, .iptr (O7 l)] (.b (decide (x.1 = l.1))):=by
 refine F7 Tryz.func66 9 fun hrd E h0=>?_
 repeat' ((first|refine A1 ?_|refine S1 ?_|refine Z1 ?_|refine Z2 ?_|(refine And.intro ?_ ?_<;>intro h<;>try first|(exfalso;omega)|exact absurd rfl h)|refine Z3 ?_|refine Z4 ?_|intro el hel hbB|intro el hel|intro ex|refine Z5 ?_|(refine A8 ?_ ?_;exact ⟨by kernel_rfl,by decide⟩)|refine A7 ?_ ?_|exact A6|refine A3 ?_ ?_|exact A2|(refine A0 ?_ ?_ ?_;kernel_rfl;kernel_rfl)) <;> (try (conv=>whnf)))
 all_goals exact A9 rfl rfl
set_option maxHeartbeats 4000000 in
theorem RC (s:B2) (i:Nat) (c:G9) (hc:s.cols[i]? = some c):B3 Tryz.prog 67 [sA s, .i i] (.i (colE s i c)):=by
 have hi:=Q0 hc
 have hany:=aU (s.cols.take i) 115 [.iptr (L5 c)] (fun x=>decide (x.name = c.name)) (fun x _=>PH x c)
 rw [List.map_take] at hany
 have hused:=RB c
 generalize hu:Dk c = u at hused
 have hmea:=PG c
 generalize hm:meaE c = m at hmea
 refine F7 Tryz.func67 51 fun hrd E h0=>?_
 repeat' ((first | (refine B1 (x:=c) (by simpa using hc) (by omega) ?_) | refine B0 (Bi _) ?_ | refine B0 hmea ?_ | refine B0 hused ?_ | refine Y8 1 ?_ | refine B0 hany ?_ |refine A1 ?_|refine S1 ?_|refine Z1 ?_|refine Z2 ?_|(refine And.intro ?_ ?_<;>intro h<;>try first|(exfalso;omega)|exact absurd rfl h)|refine Z3 ?_|refine Z4 ?_|intro el hel hbB|intro el hel|intro ex|refine Z5 ?_|(refine A8 ?_ ?_;exact ⟨by kernel_rfl,by decide⟩)|refine A7 ?_ ?_|exact A6|refine A3 ?_ ?_|exact A2|(refine A0 ?_ ?_ ?_;kernel_rfl;kernel_rfl)) <;> (try (conv=>whnf)))
 all_goals
  refine A9 rfl (congrArg AV.i ?_)
  clear hany hrd h0 hi hc E hused hmea
 all_goals first
  | (first | (simp only [colE,kindE,DT,hu,hm, *,if_true,if_false,Bool.true_eq_false,Bool.false_eq_true,or_true,or_false,true_or,false_or,and_true,true_and,and_false,false_and,not_true_eq_false,not_false_eq_true,ne_eq,reduceIte,Int.reduceEq,Int.reduceLT,Int.reduceLE,Int.reduceNeg,decide_true,decide_false,Bool.not_true,Bool.not_false,Bool.and_true,Bool.true_and,Bool.and_false,Bool.false_and,Bool.or_true,Bool.true_or,Bool.or_false,Bool.false_or,Option.some.injEq];done) | (simp only [colE,kindE,DT,hu,hm, *,if_true,if_false,Bool.true_eq_false,Bool.false_eq_true,not_true_eq_false,not_false_eq_true,ne_eq,reduceIte,Int.reduceEq];first | rfl | (repeat' split) <;> first | rfl | omega | (exfalso;omega) | contradiction))
theorem Cl {s:B2} (h:Rd (sA s)):s.lists.length ≤ 9223372036854775807 ∧ s.cols.length ≤ 9223372036854775807 ∧ ∀ l ∈ s.lists,l.2.length ≤ 9223372036854775807:=by
 refine ⟨by have:=(h.agg (.sl 2 (s.lists.map O7)) (by simp)).sl;simpa using this,by have:=(h.agg (.sl 7 (s.cols.map L5)) (by simp)).sl;simpa using this,fun l hl=>?_⟩
 have:=((h.agg (.sl 2 (s.lists.map O7)) (by simp)).elem (O7 l) (List.mem_map.2 ⟨l,hl,rfl⟩) (.sl 2 (l.2.map cA)) (by simp)).sl
 simpa using this
set_option maxHeartbeats 4000000 in
theorem AB (s:B2):B3 Tryz.prog 31 [sA s] (.i (C8 s)):=by
 refine F7 Tryz.func31 63 fun hrd E h0=>?_
 obtain ⟨hl1,hl2,hl3⟩:=Cl (s:=s) (hrd _ (by simp))
 clear hrd
 repeat' ((first|refine A1 ?_|refine S1 ?_|refine Z1 ?_|refine Z2 ?_|(refine And.intro ?_ ?_<;>intro h<;>try first|(exfalso;omega)|exact absurd rfl h)|refine Z3 ?_|refine Z4 ?_|intro el hel hbB|intro el hel|intro ex|refine Z5 ?_|(refine A8 ?_ ?_;exact ⟨by kernel_rfl,by decide⟩)|refine A7 ?_ ?_|exact A6|refine A3 ?_ ?_|exact A2|(refine A0 ?_ ?_ ?_;kernel_rfl;kernel_rfl)) <;> (try (conv=>whnf)))
 all_goals first
  | exact A9 rfl (congrArg AV.i (by rw [C8,if_pos (by omega)]))
  | skip
 have hs:C8 s = if I2 (a8 s.lists) 0 s.lists = 0 then (if s.cols.head?.map (·.kind) = some 1 then I2 (colE s) 0 s.cols else 7) else I2 (a8 s.lists) 0 s.lists:=by rw [C8,if_neg (by omega)]
 rw [hs]
 refine D8 (ι:=Nat) (fun k=>⟨[(1, .ref 0 0),(19, .sl 2 (s.lists.map O7)),(20, .i s.lists.length),(21, .i k)],1,[(0,some (.box (sL s)))]⟩) (fun k=>L0 (a8 s.lists) s.lists k) (fun k=>s.lists.length - k) 0 (L0.zero _ _) (A5 h0 rfl ⟨rfl,rfl,rfl,rfl,trivial⟩ ⟨rfl,trivial⟩ rfl rfl rfl) (fun k hI=>?_)
 have hk:=hI.1
 have hany:=fun l:CL=>cz (s.lists.take k) 66 [.iptr (O7 l)] (fun x=>decide (x.1 = l.1)) (fun x _=>Nc x l)
 rw [List.map_take] at hany
 repeat' ((first | refine B0 (GP _ _ (hl3 _ (List.mem_of_getElem? hel))) ?_ | refine Y8 1 ?_ | refine B0 (hany _) ?_ |refine A1 ?_|refine S1 ?_|refine Z1 ?_|refine Z2 ?_|(refine And.intro ?_ ?_<;>intro h<;>try first|(exfalso;omega)|exact absurd rfl h)|refine Z3 ?_|refine Z4 ?_|intro el hel hbB|intro el hel|intro ex|refine Z5 ?_|(refine A8 ?_ ?_;exact ⟨by kernel_rfl,by decide⟩)|refine A7 ?_ ?_|exact A6|refine A3 ?_ ?_|exact A2|(refine A0 ?_ ?_ ?_;kernel_rfl;kernel_rfl)) <;> (try (conv=>whnf)))
 all_goals first
  | (refine A9 rfl (congrArg AV.i ?_)
     have he:a8 s.lists k el = chk el.1 el.2:=by rw [a8,if_neg (by assumption)]
     rw [← hI.hit hel (by rw [he];assumption),he,if_neg (by assumption)];done)
  | (refine A9 rfl (congrArg AV.i ?_)
     have he:a8 s.lists k el = 10:=by rw [a8,if_pos (Classical.byContradiction (by assumption)),if_pos (by assumption)]
     rw [← hI.hit hel (by rw [he];decide),he];rfl)
  | exact ⟨k + 1,hI.step hel (by rw [a8,if_pos (Classical.byContradiction (by assumption)),if_neg (by rw [h];exact Bool.false_ne_true)]),by omega,A5 h0 rfl ⟨rfl,rfl,rfl,rfl,trivial⟩ ⟨rfl,trivial⟩ rfl rfl rfl⟩
  | (have hd:=hI.done (by assumption)
     refine A9 rfl (congrArg AV.i ?_)
     rw [if_pos hd,if_neg]
     intro hx
     rw [List.head?_eq_getElem?] at hx
     first
      | (rw [show s.cols[0]? = none from List.getElem?_eq_none (by omega)] at hx;cases hx)
      | (have hel':s.cols[0]? = some el:=hel
         rw [hel'] at hx
         have:=Option.some.inj hx
         exact absurd this (by assumption)))
  | skip
 have hd:=hI.done (by assumption)
 have hh:s.cols.head?.map (·.kind) = some 1:=by
  rw [List.head?_eq_getElem?]
  have hel':s.cols[0]? = some el:=hel
  rw [hel']
  exact congrArg some (Classical.byContradiction (by assumption))
 rw [if_pos hd,if_pos hh]
 refine D8 (ι:=Nat) (fun k=>⟨[(1, .ref 0 0),(52, .i s.cols.length),(53, .i k)],1,[(0,some (.box (sL s)))]⟩) (fun k=>L0 (colE s) s.cols k) (fun k=>s.cols.length - k) 0 (L0.zero _ _) (A5 h0 rfl ⟨rfl,rfl,rfl,trivial⟩ ⟨rfl,trivial⟩ rfl rfl rfl) (fun k hI=>?_)
 have hk:=hI.1
 have hcol:=fun (h:(k:Int) < s.cols.length)=>RC s k (s.cols[k]'(by omega)) (List.getElem?_eq_getElem (by omega))
 repeat' ((first | refine B0 (hcol (by assumption)) ?_ |refine A1 ?_|refine S1 ?_|refine Z1 ?_|refine Z2 ?_|(refine And.intro ?_ ?_<;>intro h<;>try first|(exfalso;omega)|exact absurd rfl h)|refine Z3 ?_|refine Z4 ?_|intro el hel hbB|intro el hel|intro ex|refine Z5 ?_|(refine A8 ?_ ?_;exact ⟨by kernel_rfl,by decide⟩)|refine A7 ?_ ?_|exact A6|refine A3 ?_ ?_|exact A2|(refine A0 ?_ ?_ ?_;kernel_rfl;kernel_rfl)) <;> (try (conv=>whnf)))
 all_goals first
  | exact ⟨k + 1,hI.step (List.getElem?_eq_getElem (by omega)) (Classical.byContradiction (by assumption)),by omega,A5 h0 rfl ⟨rfl,rfl,rfl,trivial⟩ ⟨rfl,trivial⟩ rfl rfl rfl⟩
  | exact A9 rfl (congrArg AV.i (hI.hit (List.getElem?_eq_getElem (by omega)) (by assumption)))
  | exact A9 rfl (congrArg AV.i (hI.done (by assumption)).symm)
theorem R3 {s:B2} (h:C8 s = 0):s.lists.length ≤ 6 ∧ s.cols.length ≤ 8 ∧ (∀ l ∈ s.lists,chk l.1 l.2 = 0) ∧ (∀ (i:Nat) c,s.cols[i]? = some c → colE s i c = 0) ∧ s.cols.head?.map (·.kind) = some 1:=by
 unfold C8 at h
 split at h
 ·cases h
 ·split at h
  ·rename_i h1 h2
   split at h
   ·rename_i h3
    refine ⟨by omega,by omega,fun l hl=>?_,fun i c hc=>by have:=AA h i c hc;rwa [Nat.zero_add] at this,h3⟩
    obtain ⟨i,hi,rfl⟩:=List.getElem_of_mem hl
    have:=AA h2 i _ (List.getElem?_eq_getElem hi)
    unfold a8 at this
    split at this
    ·assumption
    ·exact this
   ·cases h
  ·rename_i h2;exact absurd h h2
theorem GS {s:B2} {i:Nat} {c:G9} (h:colE s i c = 0):C9 c.name = true ∧ DT s i c = false ∧ kindE s i c = 0 ∧ Dk c = true:=by
 unfold colE at h
 split at h
 ·cases h
 ·split at h
  ·cases h
  ·split at h
   ·split at h
    ·rename_i h1 h2 h3 h4;exact ⟨by simpa using h1,by simpa using h2,h3,h4⟩
    ·cases h
   ·rename_i h3;exact absurd h h3
theorem Kz {s:B2} {i:Nat} {c:G9} (h:kindE s i c = 0) (hk:c.kind = 2):0 ≤ c.lst ∧ c.lst < s.lists.length:=by
 unfold kindE at h
 rw [if_neg (by omega),if_pos hk] at h
 split at h
 ·cases h
 ·omega
theorem NB {s:B2} {i:Nat} {c:G9} (h:kindE s i c = 0) (hk:c.kind = 3):meaE c = 0:=by
 unfold kindE at h
 rw [if_neg (by omega),if_neg (by omega),if_pos hk] at h
 exact h
theorem RD {s:B2} {i:Nat} {c:G9} (h:kindE s i c = 0):(c.kind = 1 ∧ i = 0) ∨ c.kind = 2 ∨ c.kind = 3:=by
 unfold kindE at h
 split at h
 ·split at h
  ·cases h
  ·left;omega
 ·split at h
  ·omega
  ·split at h
   ·omega
   ·cases h
theorem TR {c:G9} (h:meaE c = 0):-1000000 ≤ c.low ∧ c.high ≤ 1000000 ∧ c.low ≤ c.high ∧ 1 ≤ c.widths.length ∧ c.widths.length ≤ 4 ∧ f5 c.widths = true:=by
 unfold meaE at h
 split at h
 ·cases h
 ·split at h
  ·cases h
  ·split at h
   ·rename_i h3;exact ⟨by omega,by omega,by omega,by omega,by omega,h3⟩
   ·cases h
def D7 (s:B2) (c:G9):CL:=s.lists.getD c.lst.toNat ([],[])
def TS (s:B2) (c:G9) (v:Int):Bool :=
 if c.kind = 1 then decide (1 ≤ v ∧ v ≤ 1048575) else if c.kind = 2 then decide (0 ≤ v ∧ v < (D7 s c).2.length) && g8 (D7 s c).2 v else decide (c.low ≤ v ∧ v ≤ c.high) || (c.opt && decide (v = (-1099511627776)))
theorem j8 {α:Type} {l:List α} {k:Nat} {x d:α} (h:l[k]? = some x):l.getD k d = x:=by rw [List.getD_eq_getElem?_getD,h];rfl
theorem Q1 {s:B2} {c:G9} {l:CL} (h:s.lists[c.lst.toNat]? = some l):D7 s c = l:=j8 h
structure Aa (s:B2):Prop where
 e:C8 s = 0
theorem Aa.lst {s:B2} (h:C8 s = 0) {c:G9} (hc:c ∈ s.cols) (hk:c.kind = 2):0 ≤ c.lst ∧ c.lst < s.lists.length:=by
 obtain ⟨i,hi,rfl⟩:=List.getElem_of_mem hc
 exact Kz (GS ((R3 h).2.2.2.1 i _ (List.getElem?_eq_getElem hi))).2.2.1 hk
def J3 (s:B2) (n:List UInt8):Int:=K2 (fun c:G9=>decide (c.name = n)) s.cols 0
theorem PI (c:G9) (n:List UInt8):B3 Tryz.prog 166 [FD c, .iptr [.str n]] (.b (decide (c.name = n))):=by
 refine F7 Tryz.func166 8 fun hrd E h0=>?_
 repeat' ((first|refine A1 ?_|refine S1 ?_|refine Z1 ?_|refine Z2 ?_|(refine And.intro ?_ ?_<;>intro h<;>try first|(exfalso;omega)|exact absurd rfl h)|refine Z3 ?_|refine Z4 ?_|intro el hel hbB|intro el hel|intro ex|refine Z5 ?_|(refine A8 ?_ ?_;exact ⟨by kernel_rfl,by decide⟩)|refine A7 ?_ ?_|exact A6|refine A3 ?_ ?_|exact A2|(refine A0 ?_ ?_ ?_;kernel_rfl;kernel_rfl)) <;> (try (conv=>whnf)))
 all_goals exact A9 rfl rfl
theorem Dl (s:B2) (n:List UInt8):B3 Tryz.prog 136 [sA s, .str n] (.i (J3 s n)):=by
 have hidx:=Rq s.cols 166 [.iptr [.str n]] (fun c=>decide (c.name = n)) (fun x _=>PI x n)
 refine F7 Tryz.func136 9 fun hrd E h0=>?_
 repeat' ((first | refine Y8 1 ?_ | refine B0 hidx ?_ |refine A1 ?_|refine S1 ?_|refine Z1 ?_|refine Z2 ?_|(refine And.intro ?_ ?_<;>intro h<;>try first|(exfalso;omega)|exact absurd rfl h)|refine Z3 ?_|refine Z4 ?_|intro el hel hbB|intro el hel|intro ex|refine Z5 ?_|(refine A8 ?_ ?_;exact ⟨by kernel_rfl,by decide⟩)|refine A7 ?_ ?_|exact A6|refine A3 ?_ ?_|exact A2|(refine A0 ?_ ?_ ?_;kernel_rfl;kernel_rfl)) <;> (try (conv=>whnf)))
 all_goals exact A9 rfl rfl
def C6 (s:B2) (column:Int):G9:=s.cols.getD column.toNat ⟨[],0,0,0,0,[],false⟩
theorem E0 {s:B2} {column:Int} {c:G9} (h:s.cols[column.toNat]? = some c):C6 s column = c:=j8 h
def Au (s:B2) (c:G9):Int:=if c.kind = 2 then G7 (D7 s c).1 (D7 s c).2 - 1 else c.widths.length
def R7 (s:B2) (column:Int):Int:=if column < 1 ∨ (s.cols.length:Int) ≤ column then -1 else Au s (C6 s column)
def I3 (s:B2) (column:Int):Int:=if C8 s = 0 then R7 s column else -1
theorem GT {nm:List UInt8} {cs:List Code} (h:cs.length ≤ 9223372036854775807):-1 ≤ G7 nm cs ∧ G7 nm cs ≤ 61:=by
 unfold G7
 split
 ·rename_i h1
  have h2:=j7 h1
  have h3:=Jg (cs:=cs) h2.1.before
  omega
 ·omega
set_option maxHeartbeats 4000000 in
theorem RE (s:B2) (column:Int) (hr:C8 s = 0):B3 Tryz.prog 161 [sA s, .i column] (.i (R7 s column)):=by
 refine F7 Tryz.func161 34 fun hrd E h0=>?_
 obtain ⟨hl1,hl2,hl3⟩:=Cl (s:=s) (hrd _ (by simp))
 have hlb:=fun (l:CL) (hl:s.lists[(C6 s column).lst.toNat]? = some l)=>GT (nm:=l.1) (hl3 l (List.mem_of_getElem? hl))
 clear hrd
 repeat' ((first | (refine B0 (Qy _ _ (hl3 _ (List.mem_of_getElem? (by assumption)))) ?_) | (refine Ce ?_ ?_ (fun lx hlx=>?_);(have:=Aa.lst hr (List.mem_of_getElem? hel) (by assumption);omega);(have:=Aa.lst hr (List.mem_of_getElem? hel) (by assumption);omega)) | (refine G2 ?_ ?_;(have:=hlb lx (by rw [E0 hel];exact hlx);omega)) |refine A1 ?_|refine S1 ?_|refine Z1 ?_|refine Z2 ?_|(refine And.intro ?_ ?_<;>intro h<;>try first|(exfalso;omega)|exact absurd rfl h)|refine Z3 ?_|refine Z4 ?_|intro el hel hbB|intro el hel|intro ex|refine Z5 ?_|(refine A8 ?_ ?_;exact ⟨by kernel_rfl,by decide⟩)|refine A7 ?_ ?_|exact A6|refine A3 ?_ ?_|exact A2|(refine A0 ?_ ?_ ?_;kernel_rfl;kernel_rfl)) <;> (try (conv=>whnf)))
 all_goals first
  | (refine A9 rfl (congrArg AV.i ?_);rw [R7,if_pos (by omega)];done)
  | (refine A9 rfl (congrArg AV.i ?_);rw [R7,if_neg (by omega),E0 hel,Au,if_pos (by assumption),Q1 hlx];done)
  | (refine A9 rfl (congrArg AV.i ?_);rw [R7,if_neg (by omega),E0 hel,Au,if_neg (by assumption)];done)
def G0 (c:G9) (level:Int):Int:=c.widths.getD ((c.widths.length:Int) - level).toNat 0
def G1 (n w:Int):Int:=n - n % w
theorem NC {s:B2} (h:C8 s = 0) {column:Int} {c:G9} (h1:1 ≤ column) (hc:s.cols[column.toNat]? = some c) :
  (c.kind = 2 ∧ 0 ≤ c.lst ∧ c.lst < s.lists.length) ∨ (c.kind = 3 ∧ -1000000 ≤ c.low ∧ c.high ≤ 1000000 ∧ c.low ≤ c.high ∧ 1 ≤ c.widths.length ∧ c.widths.length ≤ 4 ∧ f5 c.widths = true):=by
 have hk:=(GS ((R3 h).2.2.2.1 _ c hc)).2.2.1
 rcases RD hk with h2 | h2 | h2
 ·omega
 ·exact .inl ⟨h2,Kz hk h2⟩
 ·exact .inr ⟨h2,TR (NB hk h2)⟩
theorem BP (n:Int) {w:Int} (hw:1 ≤ w):n - w < G1 n w ∧ G1 n w ≤ n:=by
 unfold G1
 have h1:=Int.emod_nonneg n (b:=w) (by omega)
 have h2:=Int.emod_lt_of_pos n (b:=w) (by omega)
 omega
theorem TT {a b w:Int} (hw:1 ≤ w) (h:a ≤ b):G1 a w ≤ G1 b w:=by
 unfold G1
 have e1:a - a % w = w * (a / w):=by have:=Int.mul_ediv_add_emod a w;omega
 have e2:b - b % w = w * (b / w):=by have:=Int.mul_ediv_add_emod b w;omega
 rw [e1,e2]
 exact Int.mul_le_mul_of_nonneg_left (Int.ediv_le_ediv (by omega) h) (by omega)
def Aw (s:B2) (c:G9) (level:Int):Int :=
 if c.kind = 2 then (V2 (D7 s c).1 (D7 s c).2 level).length else if level = 0 then 1 else (G1 c.high (G0 c level) - G1 c.low (G0 c level)) / G0 c level + 1 + (if c.opt = true then 1 else 0)
end Go.Proofs.YthkklceofokkmaaGreatDoor
