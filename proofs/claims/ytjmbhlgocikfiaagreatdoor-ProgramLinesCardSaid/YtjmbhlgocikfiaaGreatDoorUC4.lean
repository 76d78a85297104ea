/- Chapter 5: what texts conditions have, and what conditions texts are. Chapter 5: the reader's words and numbers. -/
import Derived.Test.YtjmbhlgocikfiaaGreatDoorUCm1
import Derived.Lib.ItoaNum
import Derived.Lib.AtoiAll
import Derived.Test.YtjmbhlgocikfiaaGreatDoorUSk
set_option linter.unusedVariables false
set_option linter.unnecessarySimpa false
set_option linter.unusedSimpArgs false
namespace Go.Proofs.YtjmbhlgocikfiaaGreatDoor
open Go Go.Av
attribute [local irreducible] AWp AOps AAny MAny DQ retQ retG St.le FCall GCall
set_option maxRecDepth 100000
def isW (b:UInt8):Bool:=decide (97 ≤ b.toNat ∧ b.toNat ≤ 122 ∨ 48 ≤ b.toNat ∧ b.toNat ≤ 57 ∨ b.toNat = 95)
def cutS (w t:List UInt8):List UInt8 × Bool:=if w.isPrefixOf t = true then (t.drop w.length,true) else (t,false)
theorem cutS_len (w t:List UInt8):(cutS w t).1.length ≤ t.length:=by
 unfold cutS
 split
 ·simp
 ·exact Nat.le_refl _
theorem dropWhile_len (p:UInt8 → Bool) (t:List UInt8):(t.dropWhile p).length ≤ t.length:=by
 induction t with
 | nil=>exact Nat.le_refl _
 | cons a r ih =>
  rw [List.dropWhile_cons]
  split
  ·rw [List.length_cons];omega
  ·exact Nat.le_refl _
theorem takeWhile_len (p:UInt8 → Bool) (t:List UInt8):(t.takeWhile p).length ≤ t.length:=by
 induction t with
 | nil=>exact Nat.le_refl _
 | cons a r ih =>
  rw [List.takeWhile_cons]
  split
  ·rw [List.length_cons,List.length_cons];omega
  ·simp
theorem word_end {p:UInt8 → Bool}:∀ {t:List UInt8} {n:Nat},(∀ i b,i < n → t[i]? = some b → p b = true) → n ≤ t.length → (∀ b,t[n]? = some b → p b = false) → t.takeWhile p = t.take n ∧ t.dropWhile p = t.drop n
 | [],n,_,hn,_=>by
  have:n = 0:=by simpa using hn
  subst this;exact ⟨rfl,rfl⟩
 | a :: r,0,_,_,h2=>by
  have:=h2 a rfl
  rw [List.takeWhile_cons,List.dropWhile_cons,this]
  exact ⟨rfl,rfl⟩
 | a :: r,n + 1,h1,hn,h2=>by
  have ha:=h1 0 a (by omega) rfl
  obtain ⟨i1,i2⟩:=word_end (p:=p) (t:=r) (n:=n) (fun i b hi hb=>h1 (i + 1) b (by omega) (by simpa using hb)) (by simpa using hn) (fun b hb=>h2 b (by simpa using hb))
  rw [List.takeWhile_cons,List.dropWhile_cons,ha,i1,i2]
  exact ⟨rfl,rfl⟩
def numZ (t:List UInt8):List UInt8:=(if (cutS [45] t).2 = true then [45] else []) ++ (cutS [45] t).1.takeWhile isW
def numV (z:List UInt8):Int × Bool:=match Lib.atoiAll z with
 | .ok n=>(n,decide (Lib.itoa n = z))
 | Lib.NumEnd.syntax=>(0,false)
 | .range=>(Lib.atoiSat z,false)
def numS (t:List UInt8):Int × Bool × List UInt8:=((numV (numZ t)).1,(numV (numZ t)).2,(cutS [45] t).1.dropWhile isW)
theorem numS_len (t:List UInt8):(numS t).2.2.length ≤ t.length:=Nat.le_trans (dropWhile_len _ _) (cutS_len _ _)
abbrev bUnder:List UInt8:=[32,117,110,100,101,114,32]
abbrev bFrom:List UInt8:=[32,102,114,111,109,32]
abbrev bTo:List UInt8:=[32,116,111,32]
abbrev bMiss:List UInt8:=[32,109,105,115,115,105,110,103]
abbrev bAnd:List UInt8:=[32,97,110,100,32]
abbrev bOr:List UInt8:=[32,111,114,32]
abbrev bNot:List UInt8:=[110,111,116,32]
abbrev bAll:List UInt8:=[97,108,108]
def atoP (s:Sch) (col:Int) (t:List UInt8):Cnd × Bool × List UInt8 :=
 if (cutS bUnder t).2 = true then
  if (colAt s col).kind = 2 then (.mk 2 col (findS (lstOf s (colAt s col)).1 (lstOf s (colAt s col)).2 ((cutS bUnder t).1.takeWhile isW)) 0 0 [],decide (0 ≤ findS (lstOf s (colAt s col)).1 (lstOf s (colAt s col)).2 ((cutS bUnder t).1.takeWhile isW)),(cutS bUnder t).1.dropWhile isW)
  else (.mk 2 col 0 0 0 [],false,(cutS bUnder t).1)
 else if (cutS bFrom t).2 = true then
  if (numS (cutS bFrom t).1).2.1 = true then
   if (cutS bTo (numS (cutS bFrom t).1).2.2).2 = true then
    (.mk 3 col 0 (numS (cutS bFrom t).1).1 (numS (cutS bTo (numS (cutS bFrom t).1).2.2).1).1 [],(numS (cutS bTo (numS (cutS bFrom t).1).2.2).1).2.1,(numS (cutS bTo (numS (cutS bFrom t).1).2.2).1).2.2)
   else (.mk 3 col 0 0 0 [],false,(numS (cutS bFrom t).1).2.2)
  else (.mk 3 col 0 0 0 [],false,(numS (cutS bFrom t).1).2.2)
 else if (cutS bMiss t).2 = true then (.mk 4 col 0 0 0 [],true,(cutS bMiss t).1)
 else (.mk 0 col 0 0 0 [],false,t)
structure Rd4 where
 c:Cnd
 ok:Bool
 t:List UInt8
 left:Int
def parJ (f:Int → List UInt8 → Rd4) (left:Int) (t:List UInt8):Rd4 :=
 if (f left t).ok = true then
  if (cutS bAnd (f left t).t).2 = true then
   if (f (f left t).left (cutS bAnd (f left t).t).1).ok = true then ⟨.mk 5 0 0 0 0 [(f left t).c,(f (f left t).left (cutS bAnd (f left t).t).1).c],(cutS [41] (f (f left t).left (cutS bAnd (f left t).t).1).t).2,(cutS [41] (f (f left t).left (cutS bAnd (f left t).t).1).t).1,(f (f left t).left (cutS bAnd (f left t).t).1).left⟩
   else ⟨.mk 5 0 0 0 0 [(f left t).c,(f (f left t).left (cutS bAnd (f left t).t).1).c],false,(f (f left t).left (cutS bAnd (f left t).t).1).t,(f (f left t).left (cutS bAnd (f left t).t).1).left⟩
  else if (cutS bOr (f left t).t).2 = true then
   if (f (f left t).left (cutS bOr (f left t).t).1).ok = true then ⟨.mk 6 0 0 0 0 [(f left t).c,(f (f left t).left (cutS bOr (f left t).t).1).c],(cutS [41] (f (f left t).left (cutS bOr (f left t).t).1).t).2,(cutS [41] (f (f left t).left (cutS bOr (f left t).t).1).t).1,(f (f left t).left (cutS bOr (f left t).t).1).left⟩
   else ⟨.mk 6 0 0 0 0 [(f left t).c,(f (f left t).left (cutS bOr (f left t).t).1).c],false,(f (f left t).left (cutS bOr (f left t).t).1).t,(f (f left t).left (cutS bOr (f left t).t).1).left⟩
  else ⟨.mk 6 0 0 0 0 [],false,(f left t).t,(f left t).left⟩
 else ⟨(f left t).c,false,(f left t).t,(f left t).left⟩
def conP (s:Sch):Nat → Int → List UInt8 → Rd4
 | 0,left,t=>⟨.mk 0 0 0 0 0 [],false,t,left - 1⟩
 | d + 1,left,t =>
  if left - 1 < 0 then ⟨.mk 0 0 0 0 0 [],false,t,left - 1⟩
  else if (cutS [40] t).2 = true then parJ (fun l u=>conP s d l u) (left - 1) (cutS [40] t).1
  else if (cutS bNot t).2 = true then
   ⟨.mk 7 0 0 0 0 [(conP s d (left - 1) (cutS bNot t).1).c],(conP s d (left - 1) (cutS bNot t).1).ok,(conP s d (left - 1) (cutS bNot t).1).t,(conP s d (left - 1) (cutS bNot t).1).left⟩
  else if t.takeWhile isW = bAll then ⟨.mk 1 0 0 0 0 [],true,t.dropWhile isW,left - 1⟩
  else if findS2 s (t.takeWhile isW) < 0 then ⟨.mk 0 0 0 0 0 [],false,t.dropWhile isW,left - 1⟩
  else ⟨(atoP s (findS2 s (t.takeWhile isW)) (t.dropWhile isW)).1,(atoP s (findS2 s (t.takeWhile isW)) (t.dropWhile isW)).2.1,(atoP s (findS2 s (t.takeWhile isW)) (t.dropWhile isW)).2.2,left - 1⟩
def wd:Nat → Int
 | 0=>1
 | d + 1=>2 * wd d + 1
theorem atoP_len (s:Sch) (col:Int) (t:List UInt8):(atoP s col t).2.2.length ≤ t.length:=by
 have h1:=cutS_len bUnder t
 have h2:=dropWhile_len isW (cutS bUnder t).1
 have h3:=cutS_len bFrom t
 have h4:=numS_len (cutS bFrom t).1
 have h5:=cutS_len bTo (numS (cutS bFrom t).1).2.2
 have h6:=numS_len (cutS bTo (numS (cutS bFrom t).1).2.2).1
 have h7:=cutS_len bMiss t
 unfold atoP
 (repeat' split) <;> (try dsimp only) <;> omega
theorem parJ_ok {f:Int → List UInt8 → Rd4} {w:Int} (hf:∀ l u,(f l u).t.length ≤ u.length ∧ l - w ≤ (f l u).left ∧ (f l u).left ≤ l) (left:Int) (t:List UInt8):(parJ f left t).t.length ≤ t.length ∧ left - 2 * w ≤ (parJ f left t).left ∧ (parJ f left t).left ≤ left ∧ 0 ≤ w ∨ w < 0:=by
 by_cases hw:w < 0
 ·exact .inr hw
 refine .inl ?_
 obtain ⟨a1,a2,a3⟩:=hf left t
 have c1:=cutS_len bAnd (f left t).t
 have c2:=cutS_len bOr (f left t).t
 obtain ⟨b1,b2,b5⟩:=hf (f left t).left (cutS bAnd (f left t).t).1
 obtain ⟨b3,b4,b6⟩:=hf (f left t).left (cutS bOr (f left t).t).1
 have c3:=cutS_len [41] (f (f left t).left (cutS bAnd (f left t).t).1).t
 have c4:=cutS_len [41] (f (f left t).left (cutS bOr (f left t).t).1).t
 unfold parJ
 (repeat' split) <;> (try dsimp only) <;> refine ⟨?_,?_,?_,?_⟩ <;> omega
theorem wd_pos:∀ d,1 ≤ wd d
 | 0=>by decide
 | d + 1=>by have:=wd_pos d;unfold wd;omega
theorem conP_ok (s:Sch):∀ (d:Nat) (left:Int) (t:List UInt8),(conP s d left t).t.length ≤ t.length ∧ left - wd d ≤ (conP s d left t).left ∧ (conP s d left t).left ≤ left
 | 0,left,t=>⟨Nat.le_refl _,Int.le_refl _,by unfold conP;dsimp only;omega⟩
 | d + 1,left,t=>by
  have ih:=conP_ok s d
  have hw:=wd_pos d
  have c1:=cutS_len [40] t
  have c2:=cutS_len bNot t
  have c3:=dropWhile_len isW t
  have c4:=atoP_len s (findS2 s (t.takeWhile isW)) (t.dropWhile isW)
  have hp:=parJ_ok (w:=wd d) (f:=fun l u=>conP s d l u) ih (left - 1) (cutS [40] t).1
  obtain ⟨i1,i2,i3⟩:=ih (left - 1) (cutS bNot t).1
  unfold conP wd
  (repeat' split) <;> (try dsimp only) <;> refine ⟨?_,?_,?_⟩ <;> omega
def colNm (s:Sch) (col:Int):List UInt8:=(colAt s col).name
def codNm (s:Sch) (col code:Int):List UInt8:=((lstOf s (colAt s col)).2.getD code.toNat ⟨[],0⟩).name
mutual
def txtS (s:Sch):Cnd → List UInt8
 | .mk o c k l h ks =>
  if o = 2 then colNm s c ++ bUnder ++ codNm s c k
  else if o = 3 then colNm s c ++ bFrom ++ Lib.itoa l ++ bTo ++ Lib.itoa h
  else if o = 4 then colNm s c ++ bMiss
  else if o = 5 then [40] ++ (txtL s ks).getD 0 [] ++ bAnd ++ (txtL s ks).getD 1 [] ++ [41]
  else if o = 6 then [40] ++ (txtL s ks).getD 0 [] ++ bOr ++ (txtL s ks).getD 1 [] ++ [41]
  else if o = 7 then bNot ++ (txtL s ks).getD 0 []
  else bAll
def txtL (s:Sch):List Cnd → List (List UInt8)
 | []=>[]
 | x :: r=>txtS s x :: txtL s r
end
theorem txtL_map (s:Sch):∀ l,txtL s l = l.map (txtS s)
 | []=>rfl
 | x :: r=>by rw [txtL,txtL_map s r];rfl
theorem pref_iff {w t:List UInt8}:w.isPrefixOf t = true ↔ (w.length ≤ t.length ∧ t.take w.length = w):=by
 rw [List.isPrefixOf_iff_prefix]
 constructor
 ·rintro ⟨r,rfl⟩;simp
 ·rintro ⟨h1,h2⟩
  exact ⟨t.drop w.length,by conv=>lhs;arg 1;rw [← h2]
                            exact List.take_append_drop _ _⟩
set_option maxHeartbeats 2000000 in
theorem hasPrefixL_call (t w:List UInt8) (ht:t.length ≤ 9223372036854775807) (hw:w.length ≤ 9223372036854775807):FCall Tryz.prog 126 [.str t, .str w] (.b (w.isPrefixOf t)):=by
 have hp:=pref_iff (w:=w) (t:=t)
 refine fci Tryz.func126 18 fun hrd E h0=>?_
 clear hrd
 repeat' ((first|refine aops_go ?_|refine S1 ?_|refine Z1 ?_|refine Z2 ?_|(refine And.intro ?_ ?_<;>intro h<;>try first|(exfalso;omega)|exact absurd rfl h)|refine Z3 ?_|refine Z4 ?_|intro el hel hbB|intro el hel|intro ex|refine Z5 ?_|(refine free_i ?_ ?_;exact ⟨by kernel_rfl,by decide⟩)|refine allI_c ?_ ?_|exact allI_n|refine allMP_c ?_ ?_|exact allMP_n|(refine many_step ?_ ?_ ?_;kernel_rfl;kernel_rfl)) <;> (try (conv=>whnf)))
 all_goals first
  | (refine ret_tmp rfl (congrArg AV.b (Bool.eq_iff_iff.2 ?_));rw [hp];simp only [decide_eq_true_iff,Bool.false_eq_true,false_iff];omega)
  | (refine ret_tmp rfl (congrArg AV.b (Bool.eq_iff_iff.2 ?_));rw [hp];simp only [decide_eq_true_iff,Bool.false_eq_true,false_iff];simp;omega)
  | (refine ret_tmp rfl (congrArg AV.b (Bool.eq_iff_iff.2 ?_));rw [hp];clear h0;trace_state)
set_option maxHeartbeats 2000000 in
theorem cutPrefixL_call (t w:List UInt8) (ht:t.length ≤ 9223372036854775807) (hw:w.length ≤ 9223372036854775807):FCall Tryz.prog 115 [.str t, .str w] (.tup [.str (cutS w t).1, .b (cutS w t).2]):=by
 have hp:=hasPrefixL_call t w ht hw
 have hq:=pref_iff (w:=w) (t:=t)
 unfold cutS
 refine fci Tryz.func115 15 fun hrd E h0=>?_
 clear hrd
 by_cases h:w.isPrefixOf t = true
 ·rw [if_pos h]
  rw [h] at hp
  have hq:=hq.1 h
  repeat' ((first | refine call_i hp ?_ |refine aops_go ?_|refine S1 ?_|refine Z1 ?_|refine Z2 ?_|(refine And.intro ?_ ?_<;>intro h<;>try first|(exfalso;omega)|exact absurd rfl h)|refine Z3 ?_|refine Z4 ?_|intro el hel hbB|intro el hel|intro ex|refine Z5 ?_|(refine free_i ?_ ?_;exact ⟨by kernel_rfl,by decide⟩)|refine allI_c ?_ ?_|exact allI_n|refine allMP_c ?_ ?_|exact allMP_n|(refine many_step ?_ ?_ ?_;kernel_rfl;kernel_rfl)) <;> (try (conv=>whnf)))
  all_goals first
   | exact ret_tmp2 rfl rfl (congrArg (fun z=>AV.tup [AV.str z, .b true]) (by simp))
 ·have h2:w.isPrefixOf t = false:=eq_false_of_ne_true h
  rw [if_neg h]
  rw [h2] at hp
  repeat' ((first | refine call_i hp ?_ |refine aops_go ?_|refine S1 ?_|refine Z1 ?_|refine Z2 ?_|(refine And.intro ?_ ?_<;>intro h<;>try first|(exfalso;omega)|exact absurd rfl h)|refine Z3 ?_|refine Z4 ?_|intro el hel hbB|intro el hel|intro ex|refine Z5 ?_|(refine free_i ?_ ?_;exact ⟨by kernel_rfl,by decide⟩)|refine allI_c ?_ ?_|exact allI_n|refine allMP_c ?_ ?_|exact allMP_n|(refine many_step ?_ ?_ ?_;kernel_rfl;kernel_rfl)) <;> (try (conv=>whnf)))
  all_goals first
   | exact ret_tmp2 rfl rfl rfl
set_option maxHeartbeats 2000000 in
theorem cutPrefix_call (t w:List UInt8) (ht:t.length ≤ 9223372036854775807) (hw:w.length ≤ 9223372036854775807):FCall Tryz.prog 78 [.str t, .str w] (.tup [.str (cutS w t).1, .b (cutS w t).2]):=by
 have hp:=cutPrefixL_call t w ht hw
 refine fci Tryz.func78 11 fun hrd E h0=>?_
 clear hrd
 repeat' ((first | refine call_i hp ?_ |refine aops_go ?_|refine S1 ?_|refine Z1 ?_|refine Z2 ?_|(refine And.intro ?_ ?_<;>intro h<;>try first|(exfalso;omega)|exact absurd rfl h)|refine Z3 ?_|refine Z4 ?_|intro el hel hbB|intro el hel|intro ex|refine Z5 ?_|(refine free_i ?_ ?_;exact ⟨by kernel_rfl,by decide⟩)|refine allI_c ?_ ?_|exact allI_n|refine allMP_c ?_ ?_|exact allMP_n|(refine many_step ?_ ?_ ?_;kernel_rfl;kernel_rfl)) <;> (try (conv=>whnf)))
 all_goals exact ret_tmp2 rfl rfl rfl
abbrev rdB (s:Sch) (t:List UInt8) (left:Int):Hp:=[(0,some (.box [.sl 2 (s.lists.map clL), .sl 7 (s.cols.map colL), .str t, .i left]))]
set_option maxHeartbeats 2000000 in
theorem take_call (s:Sch) (t w:List UInt8) (left:Int) (ht:t.length ≤ 9223372036854775807) (hw:w.length ≤ 9223372036854775807):GCall Tryz.prog 211 1 (rdB s t left) [.ref 0 0, .str w] 1 (rdB s (cutS w t).1 left) (.b (cutS w t).2):=by
 have hp:=cutPrefix_call t w ht hw
 refine gci Tryz.func211 21 fun E h0=>?_
 repeat' ((first | refine call_i hp ?_ |refine aops_go ?_|refine S1 ?_|refine Z1 ?_|refine Z2 ?_|(refine And.intro ?_ ?_<;>intro h<;>try first|(exfalso;omega)|exact absurd rfl h)|refine Z3 ?_|refine Z4 ?_|intro el hel hbB|intro el hel|intro ex|refine Z5 ?_|(refine free_i ?_ ?_;exact ⟨by kernel_rfl,by decide⟩)|refine allI_c ?_ ?_|exact allI_n|refine allMP_c ?_ ?_|exact allMP_n|(refine many_step ?_ ?_ ?_;kernel_rfl;kernel_rfl)) <;> (try (conv=>whnf)))
 all_goals exact retg_tmp (le_of h0 rfl ⟨rfl,trivial⟩ ⟨rfl,trivial⟩ rfl rfl rfl)
theorem isW_true {b:UInt8} (h:97 ≤ b.toNat ∧ b.toNat ≤ 122 ∨ 48 ≤ b.toNat ∧ b.toNat ≤ 57 ∨ b.toNat = 95):isW b = true:=decide_eq_true h
theorem isW_false {b:UInt8} (h:¬ (97 ≤ b.toNat ∧ b.toNat ≤ 122 ∨ 48 ≤ b.toNat ∧ b.toNat ≤ 57 ∨ b.toNat = 95)):isW b = false:=decide_eq_false h
def WAtt (t:List UInt8) (n:Nat):Prop:=n ≤ t.length ∧ ∀ i b,i < n → t[i]? = some b → isW b = true
theorem WAtt.step {t:List UInt8} {n:Nat} {b:UInt8} (h:WAtt t n) (hb:t[n]? = some b) (hw:isW b = true):WAtt t (n + 1):=by
 refine ⟨by have:=(List.getElem?_eq_some_iff.1 hb).1;omega,fun i c hi hc=>?_⟩
 by_cases e:i = n
 ·subst e;rw [hb] at hc;cases hc;exact hw
 ·exact h.2 i c (by omega) hc
theorem WAtt.ends {t:List UInt8} {n:Nat} {b:UInt8} (h:WAtt t n) (hb:t[n]? = some b) (hw:isW b = false):t.takeWhile isW = t.take n ∧ t.dropWhile isW = t.drop n :=
 word_end (fun i c hi hc=>h.2 i c hi hc) h.1 (fun c hc=>by rw [hb] at hc;cases hc;exact hw)
theorem WAtt.all {t:List UInt8} {n:Nat} (h:WAtt t n) (hn:¬ (n:Int) < t.length):t.takeWhile isW = t.take n ∧ t.dropWhile isW = t.drop n :=
 word_end (fun i c hi hc=>h.2 i c hi hc) h.1 (fun c hc=>by have:=(List.getElem?_eq_some_iff.1 hc).1;omega)
set_option maxHeartbeats 8000000 in
theorem word_call (s:Sch) (t:List UInt8) (left:Int) (ht:t.length ≤ 9223372036854775806):GCall Tryz.prog 213 1 (rdB s t left) [.ref 0 0] 1 (rdB s (t.dropWhile isW) left) (.str (t.takeWhile isW)):=by
 refine gci Tryz.func213 75 fun E h0=>?_
 repeat' ((first|refine aops_go ?_|refine S1 ?_|refine Z1 ?_|refine Z2 ?_|(refine And.intro ?_ ?_<;>intro h<;>try first|(exfalso;omega)|exact absurd rfl h)|refine Z3 ?_|refine Z4 ?_|intro el hel hbB|intro el hel|intro ex|refine Z5 ?_|(refine free_i ?_ ?_;exact ⟨by kernel_rfl,by decide⟩)|refine allI_c ?_ ?_|exact allI_n|refine allMP_c ?_ ?_|exact allMP_n|(refine many_step ?_ ?_ ?_;kernel_rfl;kernel_rfl)) <;> (try (conv=>whnf)))
 refine loop_i (ι:=Nat) (fun n=>⟨[(0, .ref 0 0),(3, .i n)],1,rdB s t left⟩) (fun n=>WAtt t n) (fun n=>t.length - n) 0 ⟨Nat.zero_le _,fun i b hi=>absurd hi (Nat.not_lt_zero _)⟩ (le_of h0 rfl ⟨rfl,rfl,trivial⟩ ⟨rfl,trivial⟩ rfl rfl rfl) (fun n hI=>?_)
 have hn:=hI.1
 by_cases hlt:n < t.length
 ·obtain ⟨b,hb⟩:∃ b,t[n]? = some b:=⟨_,List.getElem?_eq_getElem hlt⟩
  by_cases hw:97 ≤ b.toNat ∧ b.toNat ≤ 122 ∨ 48 ≤ b.toNat ∧ b.toNat ≤ 57 ∨ b.toNat = 95
  ·repeat' ((first | (refine each_known (x:=b) hb (by omega) ?_) |refine aops_go ?_|refine S1 ?_|refine Z1 ?_|refine Z2 ?_|(refine And.intro ?_ ?_<;>intro h<;>try first|(exfalso;omega)|exact absurd rfl h)|refine Z3 ?_|refine Z4 ?_|intro el hel hbB|intro el hel|intro ex|refine Z5 ?_|(refine free_i ?_ ?_;exact ⟨by kernel_rfl,by decide⟩)|refine allI_c ?_ ?_|exact allI_n|refine allMP_c ?_ ?_|exact allMP_n|(refine many_step ?_ ?_ ?_;kernel_rfl;kernel_rfl)) <;> (try (conv=>whnf)))
   all_goals first
    | exact ⟨n + 1,hI.step hb (isW_true hw),by omega,le_of h0 rfl ⟨rfl,rfl,trivial⟩ ⟨rfl,trivial⟩ rfl rfl rfl⟩
    | (exfalso;omega)
  ·obtain ⟨e1,e2⟩:=hI.ends hb (isW_false hw)
   rw [e1,e2]
   repeat' ((first | (refine each_known (x:=b) hb (by omega) ?_) |refine aops_go ?_|refine S1 ?_|refine Z1 ?_|refine Z2 ?_|(refine And.intro ?_ ?_<;>intro h<;>try first|(exfalso;omega)|exact absurd rfl h)|refine Z3 ?_|refine Z4 ?_|intro el hel hbB|intro el hel|intro ex|refine Z5 ?_|(refine free_i ?_ ?_;exact ⟨by kernel_rfl,by decide⟩)|refine allI_c ?_ ?_|exact allI_n|refine allMP_c ?_ ?_|exact allMP_n|(refine many_step ?_ ?_ ?_;kernel_rfl;kernel_rfl)) <;> (try (conv=>whnf)))
   all_goals first
    | (exfalso;omega)
    | exact retg_tmp (le_of h0 rfl ⟨congrArg (fun z=>some (AV.str z)) (by simp),trivial⟩ ⟨congrArg (fun z=>Blk.box [.sl 2 (s.lists.map clL), .sl 7 (s.cols.map colL), .str z, .i left]) (by simp),trivial⟩ rfl rfl rfl)
 ·obtain ⟨e1,e2⟩:=hI.all (by omega)
  rw [e1,e2]
  repeat' ((first|refine aops_go ?_|refine S1 ?_|refine Z1 ?_|refine Z2 ?_|(refine And.intro ?_ ?_<;>intro h<;>try first|(exfalso;omega)|exact absurd rfl h)|refine Z3 ?_|refine Z4 ?_|intro el hel hbB|intro el hel|intro ex|refine Z5 ?_|(refine free_i ?_ ?_;exact ⟨by kernel_rfl,by decide⟩)|refine allI_c ?_ ?_|exact allI_n|refine allMP_c ?_ ?_|exact allMP_n|(refine many_step ?_ ?_ ?_;kernel_rfl;kernel_rfl)) <;> (try (conv=>whnf)))
  all_goals first
   | (exfalso;omega)
   | exact retg_tmp (le_of h0 rfl ⟨congrArg (fun z=>some (AV.str z)) (by simp),trivial⟩ ⟨congrArg (fun z=>Blk.box [.sl 2 (s.lists.map clL), .sl 7 (s.cols.map colL), .str z, .i left]) (by simp),trivial⟩ rfl rfl rfl)
end Go.Proofs.YtjmbhlgocikfiaaGreatDoor
