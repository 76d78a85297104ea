/- Chapter 2: schemas, and which are right. Chapter 2: which values fit, levels, coarse values. Chapter 2: rows, columns with a name, levels. Chapter 2: blocks, the least level, coarse values, values turned to another level. -/
import Derived.Test.YtiphlhoclaogjabGreatDoorQB4
import Derived.Test.YtiphlhoclaogjabGreatDoorQB5
set_option linter.unusedVariables false
set_option linter.unnecessarySimpa false
set_option linter.unusedSimpArgs false
namespace Go.Proofs.YtiphlhoclaogjabGreatDoor
open Go Go.Av
attribute [local irreducible] D1 B5 D5 D3 DQ D7 E0 St.le B3 B6
set_option maxRecDepth 100000
structure C1 where
 name:List UInt8
 kind:Int
 lst:Int
 low:Int
 high:Int
 widths:List Int
 opt:Bool
deriving DecidableEq
abbrev CL:=List UInt8 × List Code
structure B8 where
 lists:List CL
 cols:List C1
abbrev wA (w:Int):List AV:=[.i w]
abbrev C2 (c:C1):List AV:=[.str c.name, .i c.kind, .i c.lst, .i c.low, .i c.high, .sl 1 (c.widths.map wA), .b c.opt]
abbrev F2 (l:CL):List AV:=[.str l.1, .sl 2 (l.2.map cA)]
abbrev sL (s:B8):List AV:=[.sl 2 (s.lists.map F2), .sl 7 (s.cols.map C2)]
abbrev sA (s:B8):AV:=.agg (sL s)
abbrev Y3 (c:C1):AV:=.agg (C2 c)
abbrev Xz (l:CL):AV:=.agg (F2 l)
def Ao:Int → List Int → Bool
 | _,[]=>true
 | last,w :: r=>decide (last < w) && decide (w.tmod last = 0) && decide (w ≤ 1000000) && Ao w r
def U0:List Int → Bool
 | []=>true
 | w :: r=>decide (w = 1) && Ao 1 r
def meaE (c:C1):Int:=if c.low < -1000000 ∨ 1000000 < c.high ∨ c.high < c.low then 2 else if c.widths.length = 0 ∨ 4 < c.widths.length then 1 else if U0 c.widths = true then 0 else 2
def Af (c:C1):Bool:=decide (¬ (c.kind ≠ 2 ∧ c.lst ≠ 0) ∧ (c.kind = 3 ∨ c.low = 0 ∧ c.high = 0 ∧ c.widths.length = 0 ∧ c.opt = false))
def kindE (s:B8) (i:Nat) (c:C1):Int :=
 if c.kind = 1 then (if (0:Int) < (i:Int) then 4 else 0) else if c.kind = 2 then (if c.lst < 0 ∨ (s.lists.length:Int) ≤ c.lst then 5 else 0) else if c.kind = 3 then meaE c else 4
def Cf (s:B8) (i:Nat) (c:C1):Bool:=(s.cols.take i).any fun x=>decide (x.name = c.name)
def colE (s:B8) (i:Nat) (c:C1):Int :=
 if D0 c.name = false then 3 else if Cf s i c = true then 10 else if kindE s i c = 0 then (if Af c = true then 0 else 11) else kindE s i c
def U2 (ls:List CL) (i:Nat) (l:CL):Int:=if chk l.1 l.2 = 0 then (if ((ls.take i).any fun x=>decide (x.1 = l.1)) = true then 10 else 0) else chk l.1 l.2
def F8 (s:B8):Int :=
 if 6 < s.lists.length ∨ 8 < s.cols.length then 1 else if K8 (U2 s.lists) 0 s.lists = 0 then
  (if s.cols.head?.map (·.kind) = some 1 then K8 (colE s) 0 s.cols else 7) else K8 (U2 s.lists) 0 s.lists
def AC (ws:List Int) (k:Nat) (last:Int):Prop:=k ≤ ws.length ∧ ((k = 0 ∧ last = 1) ∨ (0 < k ∧ 1 ≤ last ∧ U0 ws = Ao last (ws.drop k)))
theorem AC.pos {ws:List Int} {k:Nat} {last:Int} (h:AC ws k last):1 ≤ last:=by rcases h.2 with h | h <;> omega
theorem AC.first {ws:List Int} {k:Nat} {last w:Int} (h:AC ws k last) (hw:ws[k]? = some w) (hk:k = 0) (h1:w = 1):AC ws (k + 1) w:=by
 subst hk h1
 refine ⟨R0 hw, .inr ⟨by omega,by omega,?_⟩⟩
 have:ws = 1 :: ws.drop 1:=by have:=V8 hw;simpa using this
 rw [this];simp [U0]
theorem AC.next {ws:List Int} {k:Nat} {last w:Int} (h:AC ws k last) (hw:ws[k]? = some w) (hk:0 < k) (h1:last < w) (h2:w.tmod last = 0) (h3:w ≤ 1000000):AC ws (k + 1) w:=by
 rcases h.2 with h | h
 ·omega
 ·refine ⟨R0 hw, .inr ⟨by omega,by omega,?_⟩⟩
  rw [h.2.2,V8 hw];simp [Ao,h1,h2,h3]
theorem AC.bad0 {ws:List Int} {k:Nat} {last w:Int} (h:AC ws k last) (hw:ws[k]? = some w) (hk:k = 0) (h1:¬ w = 1):U0 ws = false:=by
 subst hk
 have:ws = w :: ws.drop 1:=by have:=V8 hw;simpa using this
 rw [this];simp [U0,h1]
theorem AC.bad {ws:List Int} {k:Nat} {last w:Int} (h:AC ws k last) (hw:ws[k]? = some w) (hk:0 < k) (h1:¬ (last < w ∧ w.tmod last = 0 ∧ w ≤ 1000000)):U0 ws = false:=by
 rcases h.2 with h | h
 ·omega
 ·rw [h.2.2,V8 hw]
  simp only [Ao,Bool.and_eq_false_iff,decide_eq_false_iff_not]
  omega
theorem AC.done {ws:List Int} {k:Nat} {last:Int} (h:AC ws k last) (hk:¬ (k:Int) < ws.length) (hn:ws.length ≠ 0):U0 ws = true:=by
 rcases h.2 with h2 | h2
 ·omega
 ·rw [h2.2.2,Ld hk];rfl
set_option maxHeartbeats 4000000 in
theorem Lo (c:C1):B3 Tryz.prog 84 [Y3 c] (.i (meaE c)):=by
 refine F3 Tryz.func84 68 fun hrd E h0=>?_
 have hlen:c.widths.length ≤ 9223372036854775807:=by
  have:=((hrd (Y3 c) (by simp)).agg (.sl 1 (c.widths.map wA)) (by simp)).sl
  simpa using this
 repeat' ((first|refine A1 ?_|refine S1 ?_|refine Z1 ?_|refine Z2 ?_|(refine And.intro ?_ ?_<;>intro h<;>try first|(exfalso;omega)|exact absurd rfl h)|refine Z3 ?_|refine Z4 ?_|intro el hel hbB|intro el hel|intro ex|refine Z5 ?_|(refine A6 ?_ ?_;exact ⟨by kernel_rfl,by decide⟩)|refine A5 ?_ ?_|exact A4|refine A3 ?_ ?_|exact A2|(refine A0 ?_ ?_ ?_;kernel_rfl;kernel_rfl)) <;> (try (conv=>whnf)))
 all_goals first
  | exact B2 rfl (congrArg AV.i (by rw [meaE,if_pos (by omega)]))
  | exact B2 rfl (congrArg AV.i (by rw [meaE,if_neg (by omega),if_pos (by omega)]))
  | skip
 have hm:meaE c = if U0 c.widths = true then 0 else 2:=by rw [meaE,if_neg (by omega),if_neg (by omega)]
 have hne:c.widths.length ≠ 0:=by omega
 rw [hm]
 refine C5 (ι:=Nat × Int) (fun x=>⟨[(3, .i x.2),(34, .sl 1 (c.widths.map wA)),(35, .i c.widths.length),(36, .i x.1)],0,[]⟩) (fun x=>AC c.widths x.1 x.2) (fun x=>c.widths.length - x.1) (0,1) ⟨Nat.zero_le _, .inl ⟨rfl,rfl⟩⟩ (A8 h0 rfl ⟨rfl,rfl,rfl,rfl,trivial⟩ trivial rfl rfl rfl) (fun x hI=>?_)
 obtain ⟨k,last⟩:=x
 have hp:=hI.pos
 have hk:=hI.1
 dsimp only at hI hp hk ⊢
 repeat' ((first|refine A1 ?_|refine S1 ?_|refine Z1 ?_|refine Z2 ?_|(refine And.intro ?_ ?_<;>intro h<;>try first|(exfalso;omega)|exact absurd rfl h)|refine Z3 ?_|refine Z4 ?_|intro el hel hbB|intro el hel|intro ex|refine Z5 ?_|(refine A6 ?_ ?_;exact ⟨by kernel_rfl,by decide⟩)|refine A5 ?_ ?_|exact A4|refine A3 ?_ ?_|exact A2|(refine A0 ?_ ?_ ?_;kernel_rfl;kernel_rfl)) <;> (try (conv=>whnf)))
 all_goals first
  | exact B2 rfl (congrArg AV.i (by rw [hI.bad0 hel (by omega) (by omega)];rfl))
  | exact B2 rfl (congrArg AV.i (by rw [hI.bad hel (by omega) (fun hx=>by first | exact absurd hx.2.1 (by assumption) | omega)];rfl))
  | exact B2 rfl (congrArg AV.i (by rw [hI.done (by assumption) hne];rfl))
  | exact ⟨(k + 1,el),hI.first hel (by omega) (by omega),by simp only;omega,A8 h0 rfl ⟨rfl,rfl,rfl,rfl,trivial⟩ trivial rfl rfl rfl⟩
  | exact ⟨(k + 1,el),hI.next hel (by omega) (by omega) (Classical.byContradiction (by assumption)) (by omega),by simp only;omega,A8 h0 rfl ⟨rfl,rfl,rfl,rfl,trivial⟩ trivial rfl rfl rfl⟩
theorem NS (c:C1):B3 Tryz.prog 85 [Y3 c] (.b (Af c)):=by
 refine F3 Tryz.func85 35 fun hrd E h0=>?_
 repeat' ((first|refine A1 ?_|refine S1 ?_|refine Z1 ?_|refine Z2 ?_|(refine And.intro ?_ ?_<;>intro h<;>try first|(exfalso;omega)|exact absurd rfl h)|refine Z3 ?_|refine Z4 ?_|intro el hel hbB|intro el hel|intro ex|refine Z5 ?_|(refine A6 ?_ ?_;exact ⟨by kernel_rfl,by decide⟩)|refine A5 ?_ ?_|exact A4|refine A3 ?_ ?_|exact A2|(refine A0 ?_ ?_ ?_;kernel_rfl;kernel_rfl)) <;> (try (conv=>whnf)))
 all_goals first
  | exact B2 rfl (congrArg AV.b (by simp_all [Af]))
set_option maxHeartbeats 2000000 in
theorem Wf (l:List (C1)) (f:Nat) (caps:List AV) (p:(C1) → Bool) (hf:∀ x ∈ l,B3 Tryz.prog f ((fun x=>Y3 x) x :: caps) (.b (p x))):B3 Tryz.prog 108 [.sl 7 (l.map C2), .fn f caps] (.i (H5 p l 0)):=by
 refine F3 Tryz.func108 19 fun hrd E h0=>?_
 have hlen:l.length ≤ 9223372036854775807:=by have:=(hrd (.sl 7 (l.map C2)) (by simp)).sl;simpa using this
 repeat' ((first|refine A1 ?_|refine S1 ?_|refine Z1 ?_|refine Z2 ?_|(refine And.intro ?_ ?_<;>intro h<;>try first|(exfalso;omega)|exact absurd rfl h)|refine Z3 ?_|refine Z4 ?_|intro el hel hbB|intro el hel|intro ex|refine Z5 ?_|(refine A6 ?_ ?_;exact ⟨by kernel_rfl,by decide⟩)|refine A5 ?_ ?_|exact A4|refine A3 ?_ ?_|exact A2|(refine A0 ?_ ?_ ?_;kernel_rfl;kernel_rfl)) <;> (try (conv=>whnf)))
 refine C5 (ι:=Nat) (fun k=>⟨[(0, .sl 7 (l.map C2)),(1, .fn f caps),(7, .i l.length),(8, .i k)],0,[]⟩) (fun k=>k ≤ l.length ∧ H5 p l 0 = H5 p (l.drop k) k) (fun k=>l.length - k) 0 ⟨Nat.zero_le _,rfl⟩ (A8 h0 rfl ⟨rfl,rfl,rfl,rfl,trivial⟩ trivial rfl rfl rfl) (fun k hI=>?_)
 obtain ⟨hk,hI⟩:=hI
 repeat' ((first | refine A9 (hf _ (List.mem_of_getElem? hel)) ?_ |refine A1 ?_|refine S1 ?_|refine Z1 ?_|refine Z2 ?_|(refine And.intro ?_ ?_<;>intro h<;>try first|(exfalso;omega)|exact absurd rfl h)|refine Z3 ?_|refine Z4 ?_|intro el hel hbB|intro el hel|intro ex|refine Z5 ?_|(refine A6 ?_ ?_;exact ⟨by kernel_rfl,by decide⟩)|refine A5 ?_ ?_|exact A4|refine A3 ?_ ?_|exact A2|(refine A0 ?_ ?_ ?_;kernel_rfl;kernel_rfl)) <;> (try (conv=>whnf)))
 all_goals first
  | exact ⟨k + 1,⟨by omega,by rw [hI,V8 hel,H5,if_neg (by simp [h])];rfl⟩,by omega,A8 h0 rfl ⟨rfl,rfl,rfl,rfl,trivial⟩ trivial rfl rfl rfl⟩
  | exact B2 rfl (congrArg AV.i (by rw [hI,V8 hel,H5,if_pos (by simp [h])]))
  | exact B2 rfl (congrArg AV.i (by rw [hI,show k = l.length by omega,List.drop_length];rfl))
set_option maxHeartbeats 2000000 in
theorem Wg (l:List (C1)) (f:Nat) (caps:List AV) (p:(C1) → Bool) (hf:∀ x ∈ l,B3 Tryz.prog f ((fun x=>Y3 x) x :: caps) (.b (p x))):B3 Tryz.prog 82 [.sl 7 (l.map C2), .fn f caps] (.b (l.any p)):=by
 refine F3 Tryz.func82 9 fun hrd E h0=>?_
 have hidx:=Wf l f caps p hf
 repeat' ((first | refine A9 hidx ?_ |refine A1 ?_|refine S1 ?_|refine Z1 ?_|refine Z2 ?_|(refine And.intro ?_ ?_<;>intro h<;>try first|(exfalso;omega)|exact absurd rfl h)|refine Z3 ?_|refine Z4 ?_|intro el hel hbB|intro el hel|intro ex|refine Z5 ?_|(refine A6 ?_ ?_;exact ⟨by kernel_rfl,by decide⟩)|refine A5 ?_ ?_|exact A4|refine A3 ?_ ?_|exact A2|(refine A0 ?_ ?_ ?_;kernel_rfl;kernel_rfl)) <;> (try (conv=>whnf)))
 all_goals first
  | exact B2 rfl (congrArg AV.b (AK p l 0 (by omega)))
set_option maxHeartbeats 2000000 in
theorem YA (l:List (CL)) (f:Nat) (caps:List AV) (p:(CL) → Bool) (hf:∀ x ∈ l,B3 Tryz.prog f ((fun x=>Xz x) x :: caps) (.b (p x))):B3 Tryz.prog 81 [.sl 2 (l.map F2), .fn f caps] (.i (H5 p l 0)):=by
 refine F3 Tryz.func81 19 fun hrd E h0=>?_
 have hlen:l.length ≤ 9223372036854775807:=by have:=(hrd (.sl 2 (l.map F2)) (by simp)).sl;simpa using this
 repeat' ((first|refine A1 ?_|refine S1 ?_|refine Z1 ?_|refine Z2 ?_|(refine And.intro ?_ ?_<;>intro h<;>try first|(exfalso;omega)|exact absurd rfl h)|refine Z3 ?_|refine Z4 ?_|intro el hel hbB|intro el hel|intro ex|refine Z5 ?_|(refine A6 ?_ ?_;exact ⟨by kernel_rfl,by decide⟩)|refine A5 ?_ ?_|exact A4|refine A3 ?_ ?_|exact A2|(refine A0 ?_ ?_ ?_;kernel_rfl;kernel_rfl)) <;> (try (conv=>whnf)))
 refine C5 (ι:=Nat) (fun k=>⟨[(0, .sl 2 (l.map F2)),(1, .fn f caps),(7, .i l.length),(8, .i k)],0,[]⟩) (fun k=>k ≤ l.length ∧ H5 p l 0 = H5 p (l.drop k) k) (fun k=>l.length - k) 0 ⟨Nat.zero_le _,rfl⟩ (A8 h0 rfl ⟨rfl,rfl,rfl,rfl,trivial⟩ trivial rfl rfl rfl) (fun k hI=>?_)
 obtain ⟨hk,hI⟩:=hI
 repeat' ((first | refine A9 (hf _ (List.mem_of_getElem? hel)) ?_ |refine A1 ?_|refine S1 ?_|refine Z1 ?_|refine Z2 ?_|(refine And.intro ?_ ?_<;>intro h<;>try first|(exfalso;omega)|exact absurd rfl h)|refine Z3 ?_|refine Z4 ?_|intro el hel hbB|intro el hel|intro ex|refine Z5 ?_|(refine A6 ?_ ?_;exact ⟨by kernel_rfl,by decide⟩)|refine A5 ?_ ?_|exact A4|refine A3 ?_ ?_|exact A2|(refine A0 ?_ ?_ ?_;kernel_rfl;kernel_rfl)) <;> (try (conv=>whnf)))
 all_goals first
  | exact ⟨k + 1,⟨by omega,by rw [hI,V8 hel,H5,if_neg (by simp [h])];rfl⟩,by omega,A8 h0 rfl ⟨rfl,rfl,rfl,rfl,trivial⟩ trivial rfl rfl rfl⟩
  | exact B2 rfl (congrArg AV.i (by rw [hI,V8 hel,H5,if_pos (by simp [h])]))
  | exact B2 rfl (congrArg AV.i (by rw [hI,show k = l.length by omega,List.drop_length];rfl))
set_option maxHeartbeats 2000000 in
theorem YB (l:List (CL)) (f:Nat) (caps:List AV) (p:(CL) → Bool) (hf:∀ x ∈ l,B3 Tryz.prog f ((fun x=>Xz x) x :: caps) (.b (p x))):B3 Tryz.prog 55 [.sl 2 (l.map F2), .fn f caps] (.b (l.any p)):=by
 refine F3 Tryz.func55 9 fun hrd E h0=>?_
 have hidx:=YA l f caps p hf
 repeat' ((first | refine A9 hidx ?_ |refine A1 ?_|refine S1 ?_|refine Z1 ?_|refine Z2 ?_|(refine And.intro ?_ ?_<;>intro h<;>try first|(exfalso;omega)|exact absurd rfl h)|refine Z3 ?_|refine Z4 ?_|intro el hel hbB|intro el hel|intro ex|refine Z5 ?_|(refine A6 ?_ ?_;exact ⟨by kernel_rfl,by decide⟩)|refine A5 ?_ ?_|exact A4|refine A3 ?_ ?_|exact A2|(refine A0 ?_ ?_ ?_;kernel_rfl;kernel_rfl)) <;> (try (conv=>whnf)))
 all_goals first
  | exact B2 rfl (congrArg AV.b (AK p l 0 (by omega)))
theorem Lp (x c:C1):B3 Tryz.prog 83 [Y3 x, .iptr (C2 c)] (.b (decide (x.name = c.name))):=by
 refine F3 Tryz.func83 9 fun hrd E h0=>?_
 repeat' ((first|refine A1 ?_|refine S1 ?_|refine Z1 ?_|refine Z2 ?_|(refine And.intro ?_ ?_<;>intro h<;>try first|(exfalso;omega)|exact absurd rfl h)|refine Z3 ?_|refine Z4 ?_|intro el hel hbB|intro el hel|intro ex|refine Z5 ?_|(refine A6 ?_ ?_;exact ⟨by kernel_rfl,by decide⟩)|refine A5 ?_ ?_|exact A4|refine A3 ?_ ?_|exact A2|(refine A0 ?_ ?_ ?_;kernel_rfl;kernel_rfl)) <;> (try (conv=>whnf)))
 all_goals exact B2 rfl rfl
theorem KQ (x l:CL):B3 Tryz.prog 56 [Xz x, .iptr (F2 l)] (.b (decide (x.1 = l.1))):=by
 refine F3 Tryz.func56 9 fun hrd E h0=>?_
 repeat' ((first|refine A1 ?_|refine S1 ?_|refine Z1 ?_|refine Z2 ?_|(refine And.intro ?_ ?_<;>intro h<;>try first|(exfalso;omega)|exact absurd rfl h)|refine Z3 ?_|refine Z4 ?_|intro el hel hbB|intro el hel|intro ex|refine Z5 ?_|(refine A6 ?_ ?_;exact ⟨by kernel_rfl,by decide⟩)|refine A5 ?_ ?_|exact A4|refine A3 ?_ ?_|exact A2|(refine A0 ?_ ?_ ?_;kernel_rfl;kernel_rfl)) <;> (try (conv=>whnf)))
 all_goals exact B2 rfl rfl
set_option maxHeartbeats 4000000 in
theorem NT (s:B8) (i:Nat) (c:C1) (hc:s.cols[i]? = some c):B3 Tryz.prog 57 [sA s, .i i] (.i (colE s i c)):=by
 have hi:=R0 hc
 have hany:=Wg (s.cols.take i) 83 [.iptr (C2 c)] (fun x=>decide (x.name = c.name)) (fun x _=>Lp x c)
 rw [List.map_take] at hany
 have hused:=NS c
 generalize hu:Af c = u at hused
 have hmea:=Lo c
 generalize hm:meaE c = m at hmea
 refine F3 Tryz.func57 51 fun hrd E h0=>?_
 repeat' ((first | (refine A7 (x:=c) (by simpa using hc) (by omega) ?_) | refine A9 (Ec _) ?_ | refine A9 hmea ?_ | refine A9 hused ?_ | refine P2 1 ?_ | refine A9 hany ?_ |refine A1 ?_|refine S1 ?_|refine Z1 ?_|refine Z2 ?_|(refine And.intro ?_ ?_<;>intro h<;>try first|(exfalso;omega)|exact absurd rfl h)|refine Z3 ?_|refine Z4 ?_|intro el hel hbB|intro el hel|intro ex|refine Z5 ?_|(refine A6 ?_ ?_;exact ⟨by kernel_rfl,by decide⟩)|refine A5 ?_ ?_|exact A4|refine A3 ?_ ?_|exact A2|(refine A0 ?_ ?_ ?_;kernel_rfl;kernel_rfl)) <;> (try (conv=>whnf)))
 all_goals
  refine B2 rfl (congrArg AV.i ?_)
  clear hany hrd h0 hi hc E hused hmea
 all_goals first
  | (first | (simp only [colE,kindE,Cf,hu,hm, *,if_true,if_false,Bool.true_eq_false,Bool.false_eq_true,or_true,or_false,true_or,false_or,and_true,true_and,and_false,false_and,not_true_eq_false,not_false_eq_true,ne_eq,reduceIte,Int.reduceEq,Int.reduceLT,Int.reduceLE,Int.reduceNeg,decide_true,decide_false,Bool.not_true,Bool.not_false,Bool.and_true,Bool.true_and,Bool.and_false,Bool.false_and,Bool.or_true,Bool.true_or,Bool.or_false,Bool.false_or,Option.some.injEq];done) | (simp only [colE,kindE,Cf,hu,hm, *,if_true,if_false,Bool.true_eq_false,Bool.false_eq_true,not_true_eq_false,not_false_eq_true,ne_eq,reduceIte,Int.reduceEq];first | rfl | (repeat' split) <;> first | rfl | omega | (exfalso;omega) | contradiction))
theorem j6 {s:B8} (h:Rd (sA s)):s.lists.length ≤ 9223372036854775807 ∧ s.cols.length ≤ 9223372036854775807 ∧ ∀ l ∈ s.lists,l.2.length ≤ 9223372036854775807:=by
 refine ⟨by have:=(h.agg (.sl 2 (s.lists.map F2)) (by simp)).sl;simpa using this,by have:=(h.agg (.sl 7 (s.cols.map C2)) (by simp)).sl;simpa using this,fun l hl=>?_⟩
 have:=((h.agg (.sl 2 (s.lists.map F2)) (by simp)).elem (F2 l) (List.mem_map.2 ⟨l,hl,rfl⟩) (.sl 2 (l.2.map cA)) (by simp)).sl
 simpa using this
set_option maxHeartbeats 4000000 in
theorem NU (s:B8):B3 Tryz.prog 23 [sA s] (.i (F8 s)):=by
 refine F3 Tryz.func23 63 fun hrd E h0=>?_
 obtain ⟨hl1,hl2,hl3⟩:=j6 (s:=s) (hrd _ (by simp))
 clear hrd
 repeat' ((first|refine A1 ?_|refine S1 ?_|refine Z1 ?_|refine Z2 ?_|(refine And.intro ?_ ?_<;>intro h<;>try first|(exfalso;omega)|exact absurd rfl h)|refine Z3 ?_|refine Z4 ?_|intro el hel hbB|intro el hel|intro ex|refine Z5 ?_|(refine A6 ?_ ?_;exact ⟨by kernel_rfl,by decide⟩)|refine A5 ?_ ?_|exact A4|refine A3 ?_ ?_|exact A2|(refine A0 ?_ ?_ ?_;kernel_rfl;kernel_rfl)) <;> (try (conv=>whnf)))
 all_goals first
  | exact B2 rfl (congrArg AV.i (by rw [F8,if_pos (by omega)]))
  | skip
 have hs:F8 s = if K8 (U2 s.lists) 0 s.lists = 0 then (if s.cols.head?.map (·.kind) = some 1 then K8 (colE s) 0 s.cols else 7) else K8 (U2 s.lists) 0 s.lists:=by rw [F8,if_neg (by omega)]
 rw [hs]
 refine C5 (ι:=Nat) (fun k=>⟨[(1, .ref 0 0),(19, .sl 2 (s.lists.map F2)),(20, .i s.lists.length),(21, .i k)],1,[(0,some (.box (sL s)))]⟩) (fun k=>V9 (U2 s.lists) s.lists k) (fun k=>s.lists.length - k) 0 (V9.zero _ _) (A8 h0 rfl ⟨rfl,rfl,rfl,rfl,trivial⟩ ⟨rfl,trivial⟩ rfl rfl rfl) (fun k hI=>?_)
 have hk:=hI.1
 have hany:=fun l:CL=>YB (s.lists.take k) 56 [.iptr (F2 l)] (fun x=>decide (x.1 = l.1)) (fun x _=>KQ x l)
 rw [List.map_take] at hany
 repeat' ((first | refine A9 (PQ _ _ (hl3 _ (List.mem_of_getElem? hel))) ?_ | refine P2 1 ?_ | refine A9 (hany _) ?_ |refine A1 ?_|refine S1 ?_|refine Z1 ?_|refine Z2 ?_|(refine And.intro ?_ ?_<;>intro h<;>try first|(exfalso;omega)|exact absurd rfl h)|refine Z3 ?_|refine Z4 ?_|intro el hel hbB|intro el hel|intro ex|refine Z5 ?_|(refine A6 ?_ ?_;exact ⟨by kernel_rfl,by decide⟩)|refine A5 ?_ ?_|exact A4|refine A3 ?_ ?_|exact A2|(refine A0 ?_ ?_ ?_;kernel_rfl;kernel_rfl)) <;> (try (conv=>whnf)))
 all_goals first
  | (refine B2 rfl (congrArg AV.i ?_)
     have he:U2 s.lists k el = chk el.1 el.2:=by rw [U2,if_neg (by assumption)]
     rw [← hI.hit hel (by rw [he];assumption),he,if_neg (by assumption)];done)
  | (refine B2 rfl (congrArg AV.i ?_)
     have he:U2 s.lists k el = 10:=by rw [U2,if_pos (Classical.byContradiction (by assumption)),if_pos (by assumption)]
     rw [← hI.hit hel (by rw [he];decide),he];rfl)
  | exact ⟨k + 1,hI.step hel (by rw [U2,if_pos (Classical.byContradiction (by assumption)),if_neg (by rw [h];exact Bool.false_ne_true)]),by omega,A8 h0 rfl ⟨rfl,rfl,rfl,rfl,trivial⟩ ⟨rfl,trivial⟩ rfl rfl rfl⟩
  | (have hd:=hI.done (by assumption)
     refine B2 rfl (congrArg AV.i ?_)
     rw [if_pos hd,if_neg]
     intro hx
     rw [List.head?_eq_getElem?] at hx
     first
      | (rw [show s.cols[0]? = none from List.getElem?_eq_none (by omega)] at hx;cases hx)
      | (have hel':s.cols[0]? = some el:=hel
         rw [hel'] at hx
         have:=Option.some.inj hx
         exact absurd this (by assumption)))
  | skip
 have hd:=hI.done (by assumption)
 have hh:s.cols.head?.map (·.kind) = some 1:=by
  rw [List.head?_eq_getElem?]
  have hel':s.cols[0]? = some el:=hel
  rw [hel']
  exact congrArg some (Classical.byContradiction (by assumption))
 rw [if_pos hd,if_pos hh]
 refine C5 (ι:=Nat) (fun k=>⟨[(1, .ref 0 0),(52, .i s.cols.length),(53, .i k)],1,[(0,some (.box (sL s)))]⟩) (fun k=>V9 (colE s) s.cols k) (fun k=>s.cols.length - k) 0 (V9.zero _ _) (A8 h0 rfl ⟨rfl,rfl,rfl,trivial⟩ ⟨rfl,trivial⟩ rfl rfl rfl) (fun k hI=>?_)
 have hk:=hI.1
 have hcol:=fun (h:(k:Int) < s.cols.length)=>NT s k (s.cols[k]'(by omega)) (List.getElem?_eq_getElem (by omega))
 repeat' ((first | refine A9 (hcol (by assumption)) ?_ |refine A1 ?_|refine S1 ?_|refine Z1 ?_|refine Z2 ?_|(refine And.intro ?_ ?_<;>intro h<;>try first|(exfalso;omega)|exact absurd rfl h)|refine Z3 ?_|refine Z4 ?_|intro el hel hbB|intro el hel|intro ex|refine Z5 ?_|(refine A6 ?_ ?_;exact ⟨by kernel_rfl,by decide⟩)|refine A5 ?_ ?_|exact A4|refine A3 ?_ ?_|exact A2|(refine A0 ?_ ?_ ?_;kernel_rfl;kernel_rfl)) <;> (try (conv=>whnf)))
 all_goals first
  | exact ⟨k + 1,hI.step (List.getElem?_eq_getElem (by omega)) (Classical.byContradiction (by assumption)),by omega,A8 h0 rfl ⟨rfl,rfl,rfl,trivial⟩ ⟨rfl,trivial⟩ rfl rfl rfl⟩
  | exact B2 rfl (congrArg AV.i (hI.hit (List.getElem?_eq_getElem (by omega)) (by assumption)))
  | exact B2 rfl (congrArg AV.i (hI.done (by assumption)).symm)
theorem F7 {s:B8} (h:F8 s = 0):s.lists.length ≤ 6 ∧ s.cols.length ≤ 8 ∧ (∀ l ∈ s.lists,chk l.1 l.2 = 0) ∧ (∀ (i:Nat) c,s.cols[i]? = some c → colE s i c = 0) ∧ s.cols.head?.map (·.kind) = some 1:=by
 unfold F8 at h
 split at h
 ·cases h
 ·split at h
  ·rename_i h1 h2
   split at h
   ·rename_i h3
    refine ⟨by omega,by omega,fun l hl=>?_,fun i c hc=>by have:=Cd h i c hc;rwa [Nat.zero_add] at this,h3⟩
    obtain ⟨i,hi,rfl⟩:=List.getElem_of_mem hl
    have:=Cd h2 i _ (List.getElem?_eq_getElem hi)
    unfold U2 at this
    split at this
    ·assumption
    ·exact this
   ·cases h
  ·rename_i h2;exact absurd h h2
theorem BL {s:B8} {i:Nat} {c:C1} (h:colE s i c = 0):D0 c.name = true ∧ Cf s i c = false ∧ kindE s i c = 0 ∧ Af c = true:=by
 unfold colE at h
 split at h
 ·cases h
 ·split at h
  ·cases h
  ·split at h
   ·split at h
    ·rename_i h1 h2 h3 h4;exact ⟨by simpa using h1,by simpa using h2,h3,h4⟩
    ·cases h
   ·rename_i h3;exact absurd h h3
theorem Hj {s:B8} {i:Nat} {c:C1} (h:kindE s i c = 0) (hk:c.kind = 2):0 ≤ c.lst ∧ c.lst < s.lists.length:=by
 unfold kindE at h
 rw [if_neg (by omega),if_pos hk] at h
 split at h
 ·cases h
 ·omega
theorem RR {s:B8} {i:Nat} {c:C1} (h:kindE s i c = 0) (hk:c.kind = 3):meaE c = 0:=by
 unfold kindE at h
 rw [if_neg (by omega),if_neg (by omega),if_pos hk] at h
 exact h
theorem Fu {s:B8} {i:Nat} {c:C1} (h:kindE s i c = 0):(c.kind = 1 ∧ i = 0) ∨ c.kind = 2 ∨ c.kind = 3:=by
 unfold kindE at h
 split at h
 ·split at h
  ·cases h
  ·left;omega
 ·split at h
  ·omega
  ·split at h
   ·omega
   ·cases h
theorem a6 {c:C1} (h:meaE c = 0):-1000000 ≤ c.low ∧ c.high ≤ 1000000 ∧ c.low ≤ c.high ∧ 1 ≤ c.widths.length ∧ c.widths.length ≤ 4 ∧ U0 c.widths = true:=by
 unfold meaE at h
 split at h
 ·cases h
 ·split at h
  ·cases h
  ·split at h
   ·rename_i h3;exact ⟨by omega,by omega,by omega,by omega,by omega,h3⟩
   ·cases h
theorem Lq:∀ (ws:List Int) (last:Int),1 ≤ last → last ≤ 1000000 → Ao last ws = true → ∀ w ∈ ws,1 ≤ w ∧ w ≤ 1000000
 | [],_,_,_,_,w,hw=>by cases hw
 | x :: r,last,h1,h2,h,w,hw=>by
   simp only [Ao,Bool.and_eq_true,decide_eq_true_eq] at h
   rcases List.mem_cons.1 hw with rfl | hw
   ·omega
   ·exact Lq r x (by omega) (by omega) h.2 w hw
theorem Ap {ws:List Int} (h:U0 ws = true):∀ w ∈ ws,1 ≤ w ∧ w ≤ 1000000:=by
 cases ws with
 | nil=>intro w hw;cases hw
 | cons x r =>
   simp only [U0,Bool.and_eq_true,decide_eq_true_eq] at h
   intro w hw
   rcases List.mem_cons.1 hw with rfl | hw
   ·omega
   ·exact Lq r 1 (by omega) (by omega) h.2 w hw
def D2 (s:B8) (c:C1):CL:=s.lists.getD c.lst.toNat ([],[])
def M0 (s:B8) (c:C1) (v:Int):Bool :=
 if c.kind = 1 then decide (1 ≤ v ∧ v ≤ 1048575) else if c.kind = 2 then decide (0 ≤ v ∧ v < (D2 s c).2.length) && P7 (D2 s c).2 v else decide (c.low ≤ v ∧ v ≤ c.high) || (c.opt && decide (v = (-1099511627776)))
theorem O2 {α:Type} {l:List α} {k:Nat} {x d:α} (h:l[k]? = some x):l.getD k d = x:=by rw [List.getD_eq_getElem?_getD,h];rfl
theorem P4 {s:B8} {c:C1} {l:CL} (h:s.lists[c.lst.toNat]? = some l):D2 s c = l:=O2 h
set_option maxHeartbeats 2000000 in
theorem Lr (l:List (Code)) (f:Nat) (caps:List AV) (p:(Code) → Bool) (hf:∀ x ∈ l,B3 Tryz.prog f ((fun x=>.agg (cA x)) x :: caps) (.b (p x))):B3 Tryz.prog 109 [.sl 2 (l.map cA), .fn f caps] (.i (H5 p l 0)):=by
 refine F3 Tryz.func109 19 fun hrd E h0=>?_
 have hlen:l.length ≤ 9223372036854775807:=by have:=(hrd (.sl 2 (l.map cA)) (by simp)).sl;simpa using this
 repeat' ((first|refine A1 ?_|refine S1 ?_|refine Z1 ?_|refine Z2 ?_|(refine And.intro ?_ ?_<;>intro h<;>try first|(exfalso;omega)|exact absurd rfl h)|refine Z3 ?_|refine Z4 ?_|intro el hel hbB|intro el hel|intro ex|refine Z5 ?_|(refine A6 ?_ ?_;exact ⟨by kernel_rfl,by decide⟩)|refine A5 ?_ ?_|exact A4|refine A3 ?_ ?_|exact A2|(refine A0 ?_ ?_ ?_;kernel_rfl;kernel_rfl)) <;> (try (conv=>whnf)))
 refine C5 (ι:=Nat) (fun k=>⟨[(0, .sl 2 (l.map cA)),(1, .fn f caps),(7, .i l.length),(8, .i k)],0,[]⟩) (fun k=>k ≤ l.length ∧ H5 p l 0 = H5 p (l.drop k) k) (fun k=>l.length - k) 0 ⟨Nat.zero_le _,rfl⟩ (A8 h0 rfl ⟨rfl,rfl,rfl,rfl,trivial⟩ trivial rfl rfl rfl) (fun k hI=>?_)
 obtain ⟨hk,hI⟩:=hI
 repeat' ((first | refine A9 (hf _ (List.mem_of_getElem? hel)) ?_ |refine A1 ?_|refine S1 ?_|refine Z1 ?_|refine Z2 ?_|(refine And.intro ?_ ?_<;>intro h<;>try first|(exfalso;omega)|exact absurd rfl h)|refine Z3 ?_|refine Z4 ?_|intro el hel hbB|intro el hel|intro ex|refine Z5 ?_|(refine A6 ?_ ?_;exact ⟨by kernel_rfl,by decide⟩)|refine A5 ?_ ?_|exact A4|refine A3 ?_ ?_|exact A2|(refine A0 ?_ ?_ ?_;kernel_rfl;kernel_rfl)) <;> (try (conv=>whnf)))
 all_goals first
  | exact ⟨k + 1,⟨by omega,by rw [hI,V8 hel,H5,if_neg (by simp [h])];rfl⟩,by omega,A8 h0 rfl ⟨rfl,rfl,rfl,rfl,trivial⟩ trivial rfl rfl rfl⟩
  | exact B2 rfl (congrArg AV.i (by rw [hI,V8 hel,H5,if_pos (by simp [h])]))
  | exact B2 rfl (congrArg AV.i (by rw [hI,show k = l.length by omega,List.drop_length];rfl))
set_option maxHeartbeats 2000000 in
theorem Tv (l:List (Code)) (f:Nat) (caps:List AV) (p:(Code) → Bool) (hf:∀ x ∈ l,B3 Tryz.prog f ((fun x=>.agg (cA x)) x :: caps) (.b (p x))):B3 Tryz.prog 86 [.sl 2 (l.map cA), .fn f caps] (.b (l.any p)):=by
 refine F3 Tryz.func86 9 fun hrd E h0=>?_
 have hidx:=Lr l f caps p hf
 repeat' ((first | refine A9 hidx ?_ |refine A1 ?_|refine S1 ?_|refine Z1 ?_|refine Z2 ?_|(refine And.intro ?_ ?_<;>intro h<;>try first|(exfalso;omega)|exact absurd rfl h)|refine Z3 ?_|refine Z4 ?_|intro el hel hbB|intro el hel|intro ex|refine Z5 ?_|(refine A6 ?_ ?_;exact ⟨by kernel_rfl,by decide⟩)|refine A5 ?_ ?_|exact A4|refine A3 ?_ ?_|exact A2|(refine A0 ?_ ?_ ?_;kernel_rfl;kernel_rfl)) <;> (try (conv=>whnf)))
 all_goals first
  | exact B2 rfl (congrArg AV.b (AK p l 0 (by omega)))
theorem PU (x:Code) (v:Int):B3 Tryz.prog 87 [.agg (cA x), .iptr [.i v]] (.b (decide (x.parent = v))):=by
 refine F3 Tryz.func87 8 fun hrd E h0=>?_
 repeat' ((first|refine A1 ?_|refine S1 ?_|refine Z1 ?_|refine Z2 ?_|(refine And.intro ?_ ?_<;>intro h<;>try first|(exfalso;omega)|exact absurd rfl h)|refine Z3 ?_|refine Z4 ?_|intro el hel hbB|intro el hel|intro ex|refine Z5 ?_|(refine A6 ?_ ?_;exact ⟨by kernel_rfl,by decide⟩)|refine A5 ?_ ?_|exact A4|refine A3 ?_ ?_|exact A2|(refine A0 ?_ ?_ ?_;kernel_rfl;kernel_rfl)) <;> (try (conv=>whnf)))
 all_goals exact B2 rfl rfl
theorem Dg (cs:List Code) (v:Int):P7 cs v = !(cs.any fun x=>decide (x.parent = v)):=by
 rw [List.not_any_eq_all_not]
 unfold P7
 congr
 funext x
 simp
set_option maxHeartbeats 4000000 in
theorem RS (s:B8) (c:C1) (v:Int) (hc:c.kind = 2 → 0 ≤ c.lst ∧ c.lst < s.lists.length):B3 Tryz.prog 59 [sA s,Y3 c, .i v] (.b (M0 s c v)):=by
 refine F3 Tryz.func59 59 fun hrd E h0=>?_
 have hany:=fun cs:List Code=>Tv cs 87 [.iptr [.i v]] (fun x=>decide (x.parent = v)) (fun x _=>PU x v)
 obtain ⟨hl1,hl2,hl3⟩:=j6 (s:=s) (hrd _ (by simp))
 clear hrd
 repeat' ((first | refine A9 (hany _) ?_ | refine P2 2 ?_ | (refine DN ?_ ?_ (fun el hel=>?_);(have:=hc (by assumption);omega);(have:=hc (by assumption);omega)) |refine A1 ?_|refine S1 ?_|refine Z1 ?_|refine Z2 ?_|(refine And.intro ?_ ?_<;>intro h<;>try first|(exfalso;omega)|exact absurd rfl h)|refine Z3 ?_|refine Z4 ?_|intro el hel hbB|intro el hel|intro ex|refine Z5 ?_|(refine A6 ?_ ?_;exact ⟨by kernel_rfl,by decide⟩)|refine A5 ?_ ?_|exact A4|refine A3 ?_ ?_|exact A2|(refine A0 ?_ ?_ ?_;kernel_rfl;kernel_rfl)) <;> (try (conv=>whnf)))
 all_goals first
  | (refine B2 rfl (congrArg AV.b ?_);clear hany hl1 hl2 hl3 hc h0 E;(first | (simp only [M0,Dg, *,if_true,if_false,Bool.true_eq_false,Bool.false_eq_true,or_true,or_false,true_or,false_or,and_true,true_and,and_false,false_and,not_true_eq_false,not_false_eq_true,ne_eq,reduceIte,Int.reduceEq,Int.reduceLT,Int.reduceLE,Int.reduceNeg,decide_true,decide_false,Bool.not_true,Bool.not_false,Bool.and_true,Bool.true_and,Bool.and_false,Bool.false_and,Bool.or_true,Bool.true_or,Bool.or_false,Bool.false_or,Option.some.injEq];done) | (simp only [M0,Dg, *,if_true,if_false,Bool.true_eq_false,Bool.false_eq_true,not_true_eq_false,not_false_eq_true,ne_eq,reduceIte,Int.reduceEq];first | rfl | (repeat' split) <;> first | rfl | omega | (exfalso;omega) | contradiction)))
  | (refine B2 rfl (congrArg AV.b ?_);clear hany hl1 hl2 hl3 hc h0 E;have he:=P4 hel;(first | (simp only [M0,Dg,he, *,if_true,if_false,Bool.true_eq_false,Bool.false_eq_true,or_true,or_false,true_or,false_or,and_true,true_and,and_false,false_and,not_true_eq_false,not_false_eq_true,ne_eq,reduceIte,Int.reduceEq,Int.reduceLT,Int.reduceLE,Int.reduceNeg,decide_true,decide_false,Bool.not_true,Bool.not_false,Bool.and_true,Bool.true_and,Bool.and_false,Bool.false_and,Bool.or_true,Bool.true_or,Bool.or_false,Bool.false_or,Option.some.injEq];done) | (simp only [M0,Dg,he, *,if_true,if_false,Bool.true_eq_false,Bool.false_eq_true,not_true_eq_false,not_false_eq_true,ne_eq,reduceIte,Int.reduceEq];first | rfl | (repeat' split) <;> first | rfl | omega | (exfalso;omega) | contradiction)))
structure Ls (s:B8):Prop where
 e:F8 s = 0
theorem Ls.lst {s:B8} (h:F8 s = 0) {c:C1} (hc:c ∈ s.cols) (hk:c.kind = 2):0 ≤ c.lst ∧ c.lst < s.lists.length:=by
 obtain ⟨i,hi,rfl⟩:=List.getElem_of_mem hc
 exact Hj (BL ((F7 h).2.2.2.1 i _ (List.getElem?_eq_getElem hi))).2.2.1 hk
def w9 (s:B8) (p:C1 × Int):Bool:=!(M0 s p.1 p.2)
def I4 (s:B8) (row:List Int):Bool:=decide (row.length = s.cols.length) && !((s.cols.zip row).any (w9 s))
theorem BV {α β:Type} {l:List α} {m:List β} {k:Nat} {x:α} {y:β} (h:l[k]? = some x) (h2:m[k]? = some y):(l.zip m)[k]? = some (x,y):=by
 rw [List.getElem?_zip_eq_some];exact ⟨h,h2⟩
set_option maxHeartbeats 4000000 in
theorem Lt (s:B8) (row:List Int) (hr:F8 s = 0):B3 Tryz.prog 26 [sA s, .sl 1 (row.map wA)] (.b (I4 s row)):=by
 refine F3 Tryz.func26 30 fun hrd E h0=>?_
 obtain ⟨hl1,hl2,hl3⟩:=j6 (s:=s) (hrd _ (by simp))
 clear hrd
 repeat' ((first|refine A1 ?_|refine S1 ?_|refine Z1 ?_|refine Z2 ?_|(refine And.intro ?_ ?_<;>intro h<;>try first|(exfalso;omega)|exact absurd rfl h)|refine Z3 ?_|refine Z4 ?_|intro el hel hbB|intro el hel|intro ex|refine Z5 ?_|(refine A6 ?_ ?_;exact ⟨by kernel_rfl,by decide⟩)|refine A5 ?_ ?_|exact A4|refine A3 ?_ ?_|exact A2|(refine A0 ?_ ?_ ?_;kernel_rfl;kernel_rfl)) <;> (try (conv=>whnf)))
 ·exact B2 rfl (congrArg AV.b (by rw [I4,decide_eq_false (by omega)];rfl))
 have hlen:=h
 clear h
 have hz:(s.cols.zip row).length = s.cols.length:=by rw [List.length_zip];omega
 have hfb:I4 s row = !((s.cols.zip row).any (w9 s)):=by rw [I4,decide_eq_true (by omega)];rfl
 rw [hfb]
 refine C5 (ι:=Nat) (fun k=>⟨[(1, .sl 1 (row.map wA)),(2, .ref 0 0),(14, .sl 7 (s.cols.map C2)),(15, .i s.cols.length),(16, .i k)],1,[(0,some (.box (sL s)))]⟩) (fun k=>W0 (w9 s) (s.cols.zip row) k) (fun k=>s.cols.length - k) 0 (W0.zero _ _) (A8 h0 rfl ⟨rfl,rfl,rfl,rfl,rfl,trivial⟩ ⟨rfl,trivial⟩ rfl rfl rfl) (fun k hI=>?_)
 have hk:=hI.1
 have hfit:=fun (c:C1) (v:Int) (hc:s.cols[k]? = some c)=>RS s c v (fun hk=>Ls.lst hr (List.mem_of_getElem? hc) hk)
 repeat' ((first | refine A9 (hfit _ _ (by assumption)) ?_ | (refine G3 ?_ ?_;kernel_rfl) |refine A1 ?_|refine S1 ?_|refine Z1 ?_|refine Z2 ?_|(refine And.intro ?_ ?_<;>intro h<;>try first|(exfalso;omega)|exact absurd rfl h)|refine Z3 ?_|refine Z4 ?_|intro el hel hbB|intro el hel|intro ex|refine Z5 ?_|(refine A6 ?_ ?_;exact ⟨by kernel_rfl,by decide⟩)|refine A5 ?_ ?_|exact A4|refine A3 ?_ ?_|exact A2|(refine A0 ?_ ?_ ?_;kernel_rfl;kernel_rfl)) <;> (try (conv=>whnf)))
 all_goals first
  | (refine B2 rfl (congrArg AV.b ?_)
     rw [← hI.hit (BV (by assumption) hel) (by simp only [w9, *];rfl)];rfl)
  | exact ⟨k + 1,hI.step (BV (by assumption) hel) (by simp only [w9, *];rfl),by omega,A8 h0 rfl ⟨rfl,rfl,rfl,rfl,rfl,trivial⟩ ⟨rfl,trivial⟩ rfl rfl rfl⟩
  | (refine B2 rfl (congrArg AV.b ?_)
     rw [← hI.done (by omega)];rfl)
def Cg (s:B8) (row:List Int):Int:=if F8 s = 0 then (if I4 s row = true then 0 else 9) else F8 s
def I0 (s:B8) (column:Int):C1:=s.cols.getD column.toNat ⟨[],0,0,0,0,[],false⟩
theorem u4 {s:B8} {column:Int} {c:C1} (h:s.cols[column.toNat]? = some c):I0 s column = c:=O2 h
def GQ (s:B8) (c:C1):Int:=if c.kind = 2 then E8 (D2 s c).1 (D2 s c).2 - 1 else c.widths.length
def PX (s:B8) (column:Int):Int:=if column < 1 ∨ (s.cols.length:Int) ≤ column then -1 else GQ s (I0 s column)
def OG (s:B8) (column:Int):Int:=if F8 s = 0 then PX s column else -1
theorem Hk {nm:List UInt8} {cs:List Code} (h:cs.length ≤ 9223372036854775807):-1 ≤ E8 nm cs ∧ E8 nm cs ≤ 61:=by
 unfold E8
 split
 ·rename_i h1
  have h2:=K9 h1
  have h3:=Lk (cs:=cs) h2.1.before
  omega
 ·omega
def E1 (c:C1) (level:Int):Int:=c.widths.getD ((c.widths.length:Int) - level).toNat 0
def E3 (n w:Int):Int:=n - n % w
theorem q9 (n:Int) {w:Int} (hw:1 ≤ w):n - w < E3 n w ∧ E3 n w ≤ n:=by
 unfold E3
 have h1:=Int.emod_nonneg n (b:=w) (by omega)
 have h2:=Int.emod_lt_of_pos n (b:=w) (by omega)
 omega
theorem PY {a b w:Int} (hw:1 ≤ w) (h:a ≤ b):E3 a w ≤ E3 b w:=by
 unfold E3
 have e1:a - a % w = w * (a / w):=by have:=Int.mul_ediv_add_emod a w;omega
 have e2:b - b % w = w * (b / w):=by have:=Int.mul_ediv_add_emod b w;omega
 rw [e1,e2]
 exact Int.mul_le_mul_of_nonneg_left (Int.ediv_le_ediv (by omega) h) (by omega)
def m7 (s:B8) (c:C1) (level:Int):Int :=
 if c.kind = 2 then (N4 (D2 s c).1 (D2 s c).2 level).length else if level = 0 then 1 else (E3 c.high (E1 c level) - E3 c.low (E1 c level)) / E1 c level + 1 + (if c.opt = true then 1 else 0)
end Go.Proofs.YtiphlhoclaogjabGreatDoor
