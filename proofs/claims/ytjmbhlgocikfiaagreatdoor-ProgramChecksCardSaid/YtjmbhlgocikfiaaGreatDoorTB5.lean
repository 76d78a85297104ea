/- The choices: New, Next, Range, One, Mod. The text of a small number; a drawn list of codes. Chapter 1: a made list in which something is another thing. Chapter 1: the lists that can be drawn are few. -/
import Derived.Test.YtjmbhlgocikfiaaGreatDoorTAvTy
import Derived.Test.YtjmbhlgocikfiaaGreatDoorTE3
import Derived.Test.YtjmbhlgocikfiaaGreatDoorTB4
set_option linter.unusedVariables false
set_option linter.unnecessarySimpa false
set_option linter.unusedSimpArgs false
namespace Go.Proofs.YtjmbhlgocikfiaaGreatDoor
open Go Go.Av
attribute [local irreducible] AWp AOps AAny DQ retQ retG St.le FCall GCall
def nxt (l:List UInt8) (at':Nat) (n:Int):Nat × Nat :=
 if n < 1 ∨ l.length ≤ at' then (0,at')
 else if 256 < n ∧ at' + 1 < l.length then (((l.getD at' 0).toNat * 256 + (l.getD (at' + 1) 0).toNat) % n.toNat,at' + 2)
 else ((l.getD at' 0).toNat % n.toNat,at' + 1)
theorem nxt_lt (l:List UInt8) (at':Nat) {n:Int} (h:1 ≤ n):((nxt l at' n).1:Int) < n:=by
 unfold nxt
 split
 ·simp only;omega
 ·have:∀ k:Nat,((k % n.toNat:Nat):Int) < n:=fun k=>by
   have:=Nat.mod_lt k (show 0 < n.toNat by omega)
   omega
  split <;> exact this _
theorem getD_of {l:List UInt8} {i:Nat} {c:UInt8} (h:l[i]? = some c):l.getD i 0 = c:=by rw [List.getD_eq_getElem?_getD,h];rfl
theorem nxt_none {l:List UInt8} {a:Nat} {n:Int} (h:n < 1 ∨ l.length ≤ a):nxt l a n = (0,a):=by rw [nxt,if_pos h]
theorem nxt_one {l:List UInt8} {a:Nat} {n:Int} {c:UInt8} (h:1 ≤ n) (hc:l[a]? = some c) (h2:¬ (256 < n ∧ a + 1 < l.length)):nxt l a n = (c.toNat % n.toNat,a + 1):=by
 have:=(List.getElem?_eq_some_iff.1 hc).1
 rw [nxt,if_neg (by omega),if_neg h2,getD_of hc]
theorem nxt_two {l:List UInt8} {a:Nat} {n:Int} {c d:UInt8} (h:256 < n) (hc:l[a]? = some c) (hd:l[a + 1]? = some d):nxt l a n = ((c.toNat * 256 + d.toNat) % n.toNat,a + 2):=by
 have:=(List.getElem?_eq_some_iff.1 hd).1
 rw [nxt,if_neg (by omega),if_pos ⟨h,this⟩,getD_of hc,getD_of hd]
theorem rem_nat {m n:Nat}:((m:Int).tmod n) = ((m % n:Nat):Int):=by
 rw [Int.tmod_eq_emod_of_nonneg (by omega)];omega
theorem rem_int {m:Nat} {n:Int} (h:1 ≤ n):((m:Int).tmod n) = ((m % n.toNat:Nat):Int):=by
 have e:n = (n.toNat:Int):=by omega
 rw [e,rem_nat,Int.toNat_natCast]
theorem tmod_bd (k:Int) {n:Int} (h:1 ≤ n):-n < k.tmod n ∧ k.tmod n < n:=⟨by
 have:=Int.lt_tmod_of_pos k (b:=n) (by omega);omega,Int.tmod_lt_of_pos k (by omega)⟩
abbrev drB (l:List UInt8) (a:Nat):Hp:=[(0,some (.box [.sl 1 (l.map u8A), .i a]))]
set_option maxHeartbeats 1000000 in
theorem new_call (l:List UInt8) (hl:l.length ≤ 9223372036854775807):GCall Tryz.prog 10 0 [] [.sl 1 (l.map u8A)] 1 (drB (l.take 400) 0) (.ref 0 0):=by
 refine gci Tryz.func10 10 fun E h0=>?_
 repeat' ((first|refine aops_go ?_|refine S1 ?_|refine Z1 ?_|refine Z2 ?_|(refine And.intro ?_ ?_<;>intro h<;>try first|(exfalso;omega)|exact absurd rfl h)|refine Z3 ?_|refine Z4 ?_|intro el hel hbB|intro el hel|intro ex|refine Z5 ?_|(refine free_i ?_ ?_;exact ⟨by kernel_rfl,by decide⟩)|refine allI_c ?_ ?_|exact allI_n|refine allMP_c ?_ ?_|exact allMP_n|(refine many_step ?_ ?_ ?_;kernel_rfl;kernel_rfl)) <;> (try (conv=>whnf)))
 refine retg_tmp (le_of h0 rfl ⟨rfl,trivial⟩ ⟨congrArg (fun z=>Blk.box [AV.sl 1 z, .i 0]) ?_,trivial⟩ rfl rfl rfl)
 rw [show (min (l.length:Int) 400).toNat = min l.length 400 by omega, ← List.map_take]
 show _ = List.map u8A (List.take (min l.length 400) l)
 congr 1
 by_cases h:l.length ≤ 400
 ·rw [Nat.min_eq_left h,List.take_of_length_le h,List.take_of_length_le (Nat.le_refl _)]
 ·rw [Nat.min_eq_right (by omega)]
set_option maxHeartbeats 2000000 in
theorem next_call (l:List UInt8) (a:Nat) (n:Int) (hl:l.length ≤ 400):GCall Tryz.prog 28 1 (drB l a) [.ref 0 0, .i n] 1 (drB l (nxt l a n).2) (.i (nxt l a n).1):=by
 refine gci Tryz.func28 77 fun E h0=>?_
 repeat' ((first | (refine draw_q ?_ ?_;kernel_rfl) |refine aops_go ?_|refine S1 ?_|refine Z1 ?_|refine Z2 ?_|(refine And.intro ?_ ?_<;>intro h<;>try first|(exfalso;omega)|exact absurd rfl h)|refine Z3 ?_|refine Z4 ?_|intro el hel hbB|intro el hel|intro ex|refine Z5 ?_|(refine free_i ?_ ?_;exact ⟨by kernel_rfl,by decide⟩)|refine allI_c ?_ ?_|exact allI_n|refine allMP_c ?_ ?_|exact allMP_n|(refine many_step ?_ ?_ ?_;kernel_rfl;kernel_rfl)) <;> (try (conv=>whnf)))
 all_goals first
  | (rw [nxt_none (by omega)];exact retg_tmp (le_of h0 rfl ⟨rfl,trivial⟩ ⟨rfl,trivial⟩ rfl rfl rfl))
  | skip
 ·rename_i el1 hel1 _ _
  have e1:l[a]? = some el1:=by rw [← hel1];congr 1;omega
  have e2:l[a + 1]? = some el:=by rw [← hel];congr 1
  rw [nxt_two (by assumption) e1 e2]
  refine retg_tmp (le_of h0 rfl ⟨congrArg (fun z=>some (AV.i z)) ?_,trivial⟩ ⟨congrArg (fun z=>Blk.box [AV.sl 1 (l.map u8A), .i z]) ?_,trivial⟩ rfl rfl rfl)
  ·rw [← rem_int (by omega)];rfl
  ·omega
 all_goals
  have e1:l[a]? = some el:=by rw [← hel];congr 1;omega
  rw [nxt_one (by omega) e1 (by omega)]
  exact retg_tmp (le_of h0 rfl ⟨congrArg (fun z=>some (AV.i z)) ((rem_int (m:=el.toNat) (n:=n) (by omega))),trivial⟩ ⟨rfl,trivial⟩ rfl rfl rfl)
def mod' (k n:Int):Int:=if n < 1 then 0 else k % n
theorem mod_lt {k n:Int} (h:1 ≤ n):0 ≤ mod' k n ∧ mod' k n < n:=by
 rw [mod',if_neg (by omega)]
 exact ⟨Int.emod_nonneg _ (by omega),Int.emod_lt_of_pos _ (by omega)⟩
theorem mod_cases (k:Int) {n:Int} (h:1 ≤ n):(k.tmod n < 0 ∧ k % n = k.tmod n + n) ∨ (0 ≤ k.tmod n ∧ k % n = k.tmod n):=by
 have h2:k % n = (k.tmod n) % n:=by
  have:=Int.mul_tdiv_add_tmod k n
  conv=>lhs;rw [← this]
  rw [Int.add_comm,Int.add_mul_emod_self_left]
 have hb:-n < k.tmod n ∧ k.tmod n < n:=⟨by have:=Int.lt_tmod_of_pos k (b:=n) (by omega);omega,Int.tmod_lt_of_pos k (by omega)⟩
 by_cases hneg:k.tmod n < 0
 ·left
  refine ⟨hneg,?_⟩
  rw [h2, ← Int.add_emod_right,Int.emod_eq_of_lt (by omega) (by omega)]
 ·right
  refine ⟨by omega,?_⟩
  rw [h2,Int.emod_eq_of_lt (by omega) (by omega)]
theorem mod_call (k n:Int) (hn:n ≤ 9223372036854775807):FCall Tryz.prog 13 [.i k, .i n] (.i (mod' k n)):=by
 have hb:=fun h:1 ≤ n=>tmod_bd k h
 refine fci Tryz.func13 16 fun hrd E h0=>?_
 repeat' ((first | (refine side_i ?_ ?_;(have:=hb (by omega);omega)) |refine aops_go ?_|refine S1 ?_|refine Z1 ?_|refine Z2 ?_|(refine And.intro ?_ ?_<;>intro h<;>try first|(exfalso;omega)|exact absurd rfl h)|refine Z3 ?_|refine Z4 ?_|intro el hel hbB|intro el hel|intro ex|refine Z5 ?_|(refine free_i ?_ ?_;exact ⟨by kernel_rfl,by decide⟩)|refine allI_c ?_ ?_|exact allI_n|refine allMP_c ?_ ?_|exact allMP_n|(refine many_step ?_ ?_ ?_;kernel_rfl;kernel_rfl)) <;> (try (conv=>whnf)))
 ·exact ret_tmp rfl (congrArg AV.i (by rw [mod',if_pos h]))
 ·refine ret_tmp rfl (congrArg AV.i ?_)
  have hn1:1 ≤ n:=by omega
  have:=mod_cases k hn1
  rw [mod',if_neg (by omega)];omega
 ·refine ret_tmp rfl (congrArg AV.i ?_)
  have hn1:1 ≤ n:=by omega
  have:=mod_cases k hn1
  rw [mod',if_neg (by omega)];omega
theorem range_call (l:List UInt8) (a:Nat) (lo hi:Int) (hl:l.length ≤ 400) (h1:lo ≤ hi) (h2:-4000000000000000000 ≤ lo) (h3:hi ≤ 4000000000000000000):GCall Tryz.prog 25 1 (drB l a) [.ref 0 0, .i lo, .i hi] 1 (drB l (nxt l a (hi - lo + 1)).2) (.i (lo + (nxt l a (hi - lo + 1)).1)):=by
 have hlt:=nxt_lt l a (n:=hi - lo + 1) (by omega)
 refine gci Tryz.func25 15 fun E h0=>?_
 repeat' ((first | refine ⟨ncall_g [0] [0] (next_call _ _ _ hl) rfl rfl rfl rfl rfl ⟨rfl,trivial⟩ rfl rfl rfl rfl rfl ?_⟩ |refine aops_go ?_|refine S1 ?_|refine Z1 ?_|refine Z2 ?_|(refine And.intro ?_ ?_<;>intro h<;>try first|(exfalso;omega)|exact absurd rfl h)|refine Z3 ?_|refine Z4 ?_|intro el hel hbB|intro el hel|intro ex|refine Z5 ?_|(refine free_i ?_ ?_;exact ⟨by kernel_rfl,by decide⟩)|refine allI_c ?_ ?_|exact allI_n|refine allMP_c ?_ ?_|exact allMP_n|(refine many_step ?_ ?_ ?_;kernel_rfl;kernel_rfl)) <;> (try (conv=>whnf)))
 exact retg_tmp (le_of h0 rfl ⟨rfl,trivial⟩ ⟨rfl,trivial⟩ rfl rfl rfl)
theorem one_call (l:List UInt8) (a:Nat) (n:Int) (hl:l.length ≤ 400) (hn:1 ≤ n ∧ n ≤ 1000000):GCall Tryz.prog 24 1 (drB l a) [.ref 0 0, .i n] 1 (drB l (nxt l a n).2) (.b (decide (((nxt l a n).1:Int) = n - 1))):=by
 refine gci Tryz.func24 11 fun E h0=>?_
 repeat' ((first | refine ⟨ncall_g [0] [0] (next_call _ _ _ hl) rfl rfl rfl rfl rfl ⟨rfl,trivial⟩ rfl rfl rfl rfl rfl ?_⟩ |refine aops_go ?_|refine S1 ?_|refine Z1 ?_|refine Z2 ?_|(refine And.intro ?_ ?_<;>intro h<;>try first|(exfalso;omega)|exact absurd rfl h)|refine Z3 ?_|refine Z4 ?_|intro el hel hbB|intro el hel|intro ex|refine Z5 ?_|(refine free_i ?_ ?_;exact ⟨by kernel_rfl,by decide⟩)|refine allI_c ?_ ?_|exact allI_n|refine allMP_c ?_ ?_|exact allMP_n|(refine many_step ?_ ?_ ?_;kernel_rfl;kernel_rfl)) <;> (try (conv=>whnf)))
 exact retg_tmp (le_of h0 rfl ⟨rfl,trivial⟩ ⟨rfl,trivial⟩ rfl rfl rfl)
def digs:Nat → Nat → List UInt8
 | 0,_=>[]
 | f + 1,n=>if n < 10 then [UInt8.ofNat (48 + n)] else digs f (n / 10) ++ [UInt8.ofNat (48 + n % 10)]
def itoaN (n:Nat):List UInt8:=digs 20 n
theorem small_one:∀ n:Nat,n < 10 → (([48,49,50,51,52,53,54,55,56,57,97,98,99,100,101,102,103,104,105,106,107,108,109,110,111,112,113,114,115,116,117,118,119,120,121,122]:List UInt8).take (n + 1)).drop n = itoaN n:=by decide
def sm2:List UInt8:=[48,48,48,49,48,50,48,51,48,52,48,53,48,54,48,55,48,56,48,57,49,48,49,49,49,50,49,51,49,52,49,53,49,54,49,55,49,56,49,57,50,48,50,49,50,50,50,51,50,52,50,53,50,54,50,55,50,56,50,57,51,48,51,49,51,50,51,51,51,52,51,53,51,54,51,55,51,56,51,57,52,48,52,49,52,50,52,51,52,52,52,53,52,54,52,55,52,56,52,57,53,48,53,49,53,50,53,51,53,52,53,53,53,54,53,55,53,56,53,57,54,48,54,49,54,50,54,51,54,52,54,53,54,54,54,55,54,56,54,57,55,48,55,49,55,50,55,51,55,52,55,53,55,54,55,55,55,56,55,57,56,48,56,49,56,50,56,51,56,52,56,53,56,54,56,55,56,56,56,57,57,48,57,49,57,50,57,51,57,52,57,53,57,54,57,55,57,56,57,57]
set_option maxRecDepth 10000 in
theorem small_two:∀ n:Nat,n < 100 → 10 ≤ n → (sm2.take (n * 2 + 2)).drop (n * 2) = itoaN n:=by decide
set_option maxHeartbeats 2000000 in
theorem small_call (n:Nat) (hn:n < 100):FCall Tryz.prog 130 [.i n] (.str (itoaN n)):=by
 refine fci Tryz.func130 15 fun hrd E h0=>?_
 repeat' ((first | (refine side_i ?_ ?_;(refine ⟨by omega,by omega,?_⟩;simp only [List.length_cons,List.length_nil];omega)) | (refine side_i ?_ ?_;(refine ⟨by omega,by omega,?_⟩;(show _ ≤ ((200:Nat):Int));omega)) |refine aops_go ?_|refine S1 ?_|refine Z1 ?_|refine Z2 ?_|(refine And.intro ?_ ?_<;>intro h<;>try first|(exfalso;omega)|exact absurd rfl h)|refine Z3 ?_|refine Z4 ?_|intro el hel hbB|intro el hel|intro ex|refine Z5 ?_|(refine free_i ?_ ?_;exact ⟨by kernel_rfl,by decide⟩)|refine allI_c ?_ ?_|exact allI_n|refine allMP_c ?_ ?_|exact allMP_n|(refine many_step ?_ ?_ ?_;kernel_rfl;kernel_rfl)) <;> (try (conv=>whnf)))
 ·refine ret_tmp rfl (congrArg AV.str ?_)
  rw [← small_one n (by omega)]
  congr 1
 ·refine ret_tmp rfl (congrArg AV.str ?_)
  rw [← small_two n hn (by omega)]
  show List.drop ((n:Int) * 2).toNat (List.take ((n:Int) * 2 + 2).toNat sm2) = _
  congr 2
theorem formatInt_call (n:Nat) (hn:n < 100):FCall Tryz.prog 90 [.i n, .i 10] (.str (itoaN n)):=by
 refine fci Tryz.func90 54 fun hrd E h0=>?_
 repeat' ((first | refine call_i (small_call _ hn) ?_ | (refine draw_q ?_ ?_;kernel_rfl) |refine aops_go ?_|refine S1 ?_|refine Z1 ?_|refine Z2 ?_|(refine And.intro ?_ ?_<;>intro h<;>try first|(exfalso;omega)|exact absurd rfl h)|refine Z3 ?_|refine Z4 ?_|intro el hel hbB|intro el hel|intro ex|refine Z5 ?_|(refine free_i ?_ ?_;exact ⟨by kernel_rfl,by decide⟩)|refine allI_c ?_ ?_|exact allI_n|refine allMP_c ?_ ?_|exact allMP_n|(refine many_step ?_ ?_ ?_;kernel_rfl;kernel_rfl)) <;> (try (conv=>whnf)))
 all_goals first
  | exact ret_tmp rfl rfl
theorem iitoa_call (n:Nat) (hn:n < 100):FCall Tryz.prog 46 [.i n] (.str (itoaN n)):=by
 refine fci Tryz.func46 5 fun hrd E h0=>?_
 repeat' ((first | refine call_i (formatInt_call _ hn) ?_ |refine aops_go ?_|refine S1 ?_|refine Z1 ?_|refine Z2 ?_|(refine And.intro ?_ ?_<;>intro h<;>try first|(exfalso;omega)|exact absurd rfl h)|refine Z3 ?_|refine Z4 ?_|intro el hel hbB|intro el hel|intro ex|refine Z5 ?_|(refine free_i ?_ ?_;exact ⟨by kernel_rfl,by decide⟩)|refine allI_c ?_ ?_|exact allI_n|refine allMP_c ?_ ?_|exact allMP_n|(refine many_step ?_ ?_ ?_;kernel_rfl;kernel_rfl)) <;> (try (conv=>whnf)))
 exact ret_tmp rfl rfl
theorem itoa_call (n:Nat) (hn:n < 100):FCall Tryz.prog 27 [.i n] (.str (itoaN n)):=by
 refine fci Tryz.func27 5 fun hrd E h0=>?_
 repeat' ((first | refine call_i (iitoa_call _ hn) ?_ |refine aops_go ?_|refine S1 ?_|refine Z1 ?_|refine Z2 ?_|(refine And.intro ?_ ?_<;>intro h<;>try first|(exfalso;omega)|exact absurd rfl h)|refine Z3 ?_|refine Z4 ?_|intro el hel hbB|intro el hel|intro ex|refine Z5 ?_|(refine free_i ?_ ?_;exact ⟨by kernel_rfl,by decide⟩)|refine allI_c ?_ ?_|exact allI_n|refine allMP_c ?_ ?_|exact allMP_n|(refine many_step ?_ ?_ ?_;kernel_rfl;kernel_rfl)) <;> (try (conv=>whnf)))
 exact ret_tmp rfl rfl
def kCode (i:Nat):Code:=⟨[107] ++ itoaN i,0⟩
def lCode (n p:Nat):Code:=⟨[108] ++ itoaN n,1 + p⟩
def topC:Code:=⟨[116,111,112], -1⟩
def kCodes (kids:Nat):List Code:=topC :: (List.range kids).map kCode
def lAdd (cs:List Code) (p:Nat):Nat → List Code
 | 0=>cs
 | k + 1=>lAdd (cs ++ [lCode cs.length p]) p k
def lCodes (l:List UInt8):List Code × Nat → Nat → Nat → List Code × Nat
 | s,_,0=>s
 | s,p,k + 1=>lCodes l (lAdd s.1 p (1 + (nxt l s.2 2).1),(nxt l s.2 2).2) (p + 1) k
def listS (l:List UInt8) (a:Nat):List Code × Nat :=
 let kids:=1 + (nxt l a 3).1
 let b:=nxt l (nxt l a 3).2 2
 if b.1 = 1 then (kCodes kids,b.2) else lCodes l (kCodes kids,b.2) 0 kids
abbrev cdT:Nat:=99
abbrev lB (l:List UInt8) (a:Nat) (nm:List UInt8) (cs:List Code):Hp:=[(0,some (.box [.sl 1 (l.map u8A), .i a])),(1,some (.box [.str nm, .row 2 0 cs.length])),(2,some (.row cdT 2 0 (cs.map cA)))]
theorem kCodes_succ (i:Nat):(kCodes i) ++ [kCode i] = kCodes (i + 1):=by
 unfold kCodes
 rw [List.range_succ,List.map_append];rfl
theorem kCodes_length (i:Nat):(kCodes i).length = i + 1:=by simp [kCodes]
theorem digs_length:∀ f n,(digs f n).length ≤ f
 | 0,_=>Nat.le_refl _
 | f + 1,n=>by
  unfold digs
  split
  ·simp
  ·have:=digs_length f (n / 10)
   simp;omega
theorem itoaN_length (n:Nat):(itoaN n).length ≤ 20:=digs_length 20 n
set_option maxHeartbeats 4000000 in
theorem list_call (l:List UInt8) (a:Nat) (nm:List UInt8) (hl:l.length ≤ 400):GCall Tryz.prog 23 1 (drB l a) [.ref 0 0, .str nm] 3 (lB l (listS l a).2 nm (listS l a).1) (.agg [.str nm, .row 2 0 (listS l a).1.length]):=by
 have hk3:=nxt_lt l a (n:=3) (by omega)
 generalize hb1:(nxt l a 3).1 = b1 at hk3
 generalize hb2:(nxt l a 3).2 = b2
 refine gci Tryz.func23 58 fun E h0=>?_
 repeat' ((first | refine own_slice rfl ?_ | refine ⟨ncall_g [0] [0] (range_call _ _ _ _ hl (by omega) (by omega) (by omega)) rfl rfl rfl rfl rfl ⟨rfl,trivial⟩ rfl rfl rfl rfl rfl ?_⟩ | refine ⟨ncall_g [0] [0] (one_call _ _ _ hl (by omega)) rfl rfl rfl rfl rfl ⟨rfl,trivial⟩ rfl rfl rfl rfl rfl ?_⟩ |refine aops_go ?_|refine S1 ?_|refine Z1 ?_|refine Z2 ?_|(refine And.intro ?_ ?_<;>intro h<;>try first|(exfalso;omega)|exact absurd rfl h)|refine Z3 ?_|refine Z4 ?_|intro el hel hbB|intro el hel|intro ex|refine Z5 ?_|(refine free_i ?_ ?_;exact ⟨by kernel_rfl,by decide⟩)|refine allI_c ?_ ?_|exact allI_n|refine allMP_c ?_ ?_|exact allMP_n|(refine many_step ?_ ?_ ?_;kernel_rfl;kernel_rfl)) <;> (try (conv=>whnf)))
 refine loop_i (ι:=Nat) (fun i=>⟨[(0, .ref 0 0),(4, .ref 1 0),(5, .ref 3 0),(6, .i (1 + b1:Int)),(7, .i i)],4,[(0,some (.box [.sl 1 (l.map u8A), .i b2])),(1,some (.box [.str [], .v (.slice none 0 0)])),(2,some (.row cdT 2 0 ((kCodes i).map cA))),(3,some (.box [.str nm, .row 2 0 (kCodes i).length]))]⟩) (fun i=>i ≤ 1 + b1) (fun i=>1 + b1 - i) 0 (Nat.zero_le _) (le_of h0 rfl ⟨rfl,rfl,rfl,by rw [← hb1];rfl,rfl,trivial⟩ ⟨by rw [← hb2];rfl,rfl,⟨0,rfl⟩,rfl,trivial⟩ rfl rfl rfl) (fun i hI=>?_)
 have hil:=itoaN_length i
 have hkl:=kCodes_length i
 repeat' ((first | refine call_i (itoa_call i (by omega)) ?_ | (refine side_i ?_ ?_;(simp only [List.length_cons,List.length_nil];omega)) | refine ⟨ncall_g [0] [0] (one_call _ _ _ hl (by omega)) rfl rfl rfl rfl rfl ⟨rfl,trivial⟩ rfl rfl rfl rfl rfl ?_⟩ | refine draw_e ⟨[(0, .ref 0 0),(4, .ref 1 0),(5, .ref 3 0),(6, .i (1 + b1:Int)),(7, .i i)],4,[(0,some (.box [.sl 1 (l.map u8A), .i b2])),(1,some (.box [.str [], .v (.slice none 0 0)])),(2,some (.row cdT 2 0 ((kCodes (i + 1)).map cA))),(3,some (.box [.str nm, .row 2 0 (kCodes (i + 1)).length]))]⟩ ?_ ?_ |refine aops_go ?_|refine S1 ?_|refine Z1 ?_|refine Z2 ?_|(refine And.intro ?_ ?_<;>intro h<;>try first|(exfalso;omega)|exact absurd rfl h)|refine Z3 ?_|refine Z4 ?_|intro el hel hbB|intro el hel|intro ex|refine Z5 ?_|(refine free_i ?_ ?_;exact ⟨by kernel_rfl,by decide⟩)|refine allI_c ?_ ?_|exact allI_n|refine allMP_c ?_ ?_|exact allMP_n|(refine many_step ?_ ?_ ?_;kernel_rfl;kernel_rfl)) <;> (try (conv=>whnf)))
 case refine_1.refine_2 =>
  exact ⟨i + 1,by omega,by omega,le_of h0 rfl ⟨rfl,rfl,rfl,rfl,rfl,trivial⟩ ⟨rfl,rfl,⟨0,rfl⟩,rfl,trivial⟩ rfl rfl rfl⟩
 case refine_2.refine_1 =>
  have e:listS l a = (kCodes (1 + b1),(nxt l b2 2).2):=by
   have:(nxt l b2 2).1 = 1:=by omega
   simp [listS,hb1,hb2,this]
  have ei:i = 1 + b1:=by omega
  subst ei
  rw [e]
  exact retg_cell (i:=1) rfl (le_of h0 rfl ⟨rfl,trivial⟩ ⟨rfl,rfl,⟨0,rfl⟩,trivial⟩ rfl rfl rfl) rfl
 case refine_2.refine_2 =>
  have e:listS l a = lCodes l (kCodes (1 + b1),(nxt l b2 2).2) 0 (1 + b1):=by
   have:¬ (nxt l b2 2).1 = 1:=by omega
   simp [listS,hb1,hb2,this]
  have ei:i = 1 + b1:=by omega
  subst ei
  rw [e]
  clear e h hI hil
  generalize (nxt l b2 2).2 = b3
  refine loop_i (ι:=Nat × List Code × Nat) (fun x=>⟨[(0, .ref 0 0),(4, .ref 1 0),(5, .ref 3 0),(6, .i (1 + b1:Int)),(8, .i x.1)],4,[(0,some (.box [.sl 1 (l.map u8A), .i x.2.2])),(1,some (.box [.str [], .v (.slice none 0 0)])),(2,some (.row cdT 2 0 (x.2.1.map cA))),(3,some (.box [.str nm, .row 2 0 x.2.1.length]))]⟩)
   (fun x=>x.1 ≤ 1 + b1 ∧ x.2.1.length ≤ 2 + b1 + 2 * x.1 ∧ lCodes l (kCodes (1 + b1),b3) 0 (1 + b1) = lCodes l x.2 x.1 (1 + b1 - x.1)) (fun x=>1 + b1 - x.1) (0,kCodes (1 + b1),b3) ⟨Nat.zero_le _,by rw [kCodes_length];omega,rfl⟩
   (le_of h0 rfl ⟨rfl,rfl,rfl,rfl,rfl,trivial⟩ ⟨rfl,rfl,⟨0,rfl⟩,rfl,trivial⟩ rfl rfl rfl) (fun x hJ=>?_)
  obtain ⟨p,cs,a2⟩:=x
  obtain ⟨hp,hcl,hJ⟩:=hJ
  simp only at hp hcl hJ
  repeat' ((first | refine ⟨ncall_g [0] [0] (range_call _ _ _ _ hl (by omega) (by omega) (by omega)) rfl rfl rfl rfl rfl ⟨rfl,trivial⟩ rfl rfl rfl rfl rfl ?_⟩ |refine aops_go ?_|refine S1 ?_|refine Z1 ?_|refine Z2 ?_|(refine And.intro ?_ ?_<;>intro h<;>try first|(exfalso;omega)|exact absurd rfl h)|refine Z3 ?_|refine Z4 ?_|intro el hel hbB|intro el hel|intro ex|refine Z5 ?_|(refine free_i ?_ ?_;exact ⟨by kernel_rfl,by decide⟩)|refine allI_c ?_ ?_|exact allI_n|refine allMP_c ?_ ?_|exact allMP_n|(refine many_step ?_ ?_ ?_;kernel_rfl;kernel_rfl)) <;> (try (conv=>whnf)))
  ·simp only at h
   have hk2:=nxt_lt l a2 (n:=2) (by omega)
   generalize hr1:(nxt l a2 2).1 = r1 at hk2
   generalize hr2:(nxt l a2 2).2 = r2
   refine loop_i (ι:=List Code × Nat) (fun y=>⟨[(0, .ref 0 0),(4, .ref 1 0),(5, .ref 3 0),(6, .i (1 + b1:Int)),(8, .i p),(9, .i y.2)],4,[(0,some (.box [.sl 1 (l.map u8A), .i r2])),(1,some (.box [.str [], .v (.slice none 0 0)])),(2,some (.row cdT 2 0 (y.1.map cA))),(3,some (.box [.str nm, .row 2 0 y.1.length]))]⟩)
    (fun y=>y.2 ≤ 1 + r1 ∧ y.1.length + y.2 = cs.length + 1 + r1 ∧ lAdd cs p (1 + r1) = lAdd y.1 p y.2) (fun y=>y.2) (cs,1 + r1) ⟨Nat.le_refl _,by simp only;omega,rfl⟩
    (le_of h0 rfl ⟨rfl,rfl,rfl,rfl,rfl,by rw [← hr1];exact congrArg (fun z=>some (AV.i z)) (by show (1:Int) + ((nxt l a2 2).1:Int) = _;simp only;omega),trivial⟩ ⟨by rw [← hr2];rfl,rfl,⟨0,rfl⟩,rfl,trivial⟩ rfl rfl rfl) (fun y hK=>?_)
   obtain ⟨cs',k⟩:=y
   obtain ⟨hk,hlen,hK⟩:=hK
   simp only at hk hlen hK
   have hil:=itoaN_length cs'.length
   repeat' ((first | refine call_i (itoa_call cs'.length (by omega)) ?_ | (refine side_i ?_ ?_;(simp only [List.length_cons,List.length_nil];omega)) | refine draw_e ⟨[(0, .ref 0 0),(4, .ref 1 0),(5, .ref 3 0),(6, .i (1 + b1:Int)),(8, .i p),(9, .i k)],4,[(0,some (.box [.sl 1 (l.map u8A), .i r2])),(1,some (.box [.str [], .v (.slice none 0 0)])),(2,some (.row cdT 2 0 ((cs' ++ [lCode cs'.length p]).map cA))),(3,some (.box [.str nm, .row 2 0 (cs' ++ [lCode cs'.length p]).length]))]⟩ ?_ ?_ |refine aops_go ?_|refine S1 ?_|refine Z1 ?_|refine Z2 ?_|(refine And.intro ?_ ?_<;>intro h<;>try first|(exfalso;omega)|exact absurd rfl h)|refine Z3 ?_|refine Z4 ?_|intro el hel hbB|intro el hel|intro ex|refine Z5 ?_|(refine free_i ?_ ?_;exact ⟨by kernel_rfl,by decide⟩)|refine allI_c ?_ ?_|exact allI_n|refine allMP_c ?_ ?_|exact allMP_n|(refine many_step ?_ ?_ ?_;kernel_rfl;kernel_rfl)) <;> (try (conv=>whnf)))
   all_goals first
    | exact le_of h0 rfl ⟨rfl,rfl,rfl,rfl,rfl,rfl,trivial⟩ ⟨rfl,rfl,⟨_,congrArg (Blk.row cdT 2 _) (by rw [List.map_append];rfl)⟩,congrArg (fun z=>Blk.box [AV.str nm, .row 2 0 z]) (by rw [List.length_append];rfl),trivial⟩ rfl rfl rfl
    | skip
   ·simp only at h
    obtain ⟨k',rfl⟩:∃ k',k = k' + 1:=⟨k - 1,by omega⟩
    refine ⟨(cs' ++ [lCode cs'.length p],k'),⟨?_,?_,?_⟩,?_,le_of h0 rfl ⟨rfl,rfl,rfl,rfl,rfl,congrArg (fun z=>some (AV.i z)) ?_,trivial⟩ ⟨rfl,rfl,⟨0,rfl⟩,rfl,trivial⟩ rfl rfl rfl⟩
    ·simp only;omega
    ·simp only [List.length_append,List.length_singleton];omega
    ·rw [hK];rfl
    ·simp only;omega
    ·simp only;omega
   ·simp only at h
    have ek:k = 0:=by omega
    subst ek
    refine ⟨(p + 1,cs',r2),⟨?_,?_,?_⟩,?_,le_of h0 rfl ⟨rfl,rfl,rfl,rfl,rfl,trivial⟩ ⟨rfl,rfl,⟨0,rfl⟩,rfl,trivial⟩ rfl rfl rfl⟩
    ·simp only;omega
    ·simp only;omega
    ·obtain ⟨q,hq⟩:∃ q,1 + b1 - p = q + 1:=⟨b1 - p,by omega⟩
     have hq2:1 + b1 - (p + 1) = q:=by omega
     rw [hJ,hq]
     simp only [hq2,lCodes,hr1,hr2,hK]
     rfl
    ·simp only;omega
  ·simp only at h
   have e1:1 + b1 - p = 0:=by omega
   rw [hJ,e1]
   exact retg_cell (i:=1) rfl (le_of h0 rfl ⟨rfl,trivial⟩ ⟨rfl,rfl,⟨0,rfl⟩,trivial⟩ rfl rfl rfl) rfl
 all_goals exact le_of h0 rfl ⟨rfl,rfl,rfl,rfl,rfl,trivial⟩ ⟨rfl,rfl,⟨_,congrArg (Blk.row cdT 2 _) (by rw [← kCodes_succ,List.map_append];rfl)⟩,congrArg (fun z=>Blk.box [AV.str nm, .row 2 0 z]) (by rw [kCodes_length,kCodes_length];rfl),trivial⟩ rfl rfl rfl
theorem lAdd_length (cs:List Code) (p:Nat):∀ k,(lAdd cs p k).length = cs.length + k
 | 0=>rfl
 | k + 1=>by
  unfold lAdd
  induction k generalizing cs with
  | zero=>simp [lAdd]
  | succ k ih=>rw [lAdd,ih];simp;omega
theorem lCodes_length (l:List UInt8):∀ (k p:Nat) (s:List Code × Nat),s.1.length ≤ (lCodes l s p k).1.length ∧ (lCodes l s p k).1.length ≤ s.1.length + 2 * k
 | 0,p,s=>⟨Nat.le_refl _,Nat.le_refl _⟩
 | k + 1,p,s=>by
  unfold lCodes
  have h:=lCodes_length l k (p + 1) (lAdd s.1 p (1 + (nxt l s.2 2).1),(nxt l s.2 2).2)
  have h2:=nxt_lt l s.2 (n:=2) (by omega)
  rw [lAdd_length] at h
  omega
end Go.Proofs.YtjmbhlgocikfiaaGreatDoor
namespace Go.Proofs.YtjmbhlgocikfiaaGreatDoor
open Go Go.Av
def lF:List Code → Nat → List Nat → List Code
 | cs,_,[]=>cs
 | cs,p,r :: rs=>lF (lAdd cs p r) (p + 1) rs
def twos:Nat → List (List Nat)
 | 0=>[[]]
 | k + 1=>(twos k).flatMap fun r=>[1 :: r,2 :: r]
theorem lCodes_mem (l:List UInt8):∀ (k p:Nat) (s:List Code × Nat), ∃ rs ∈ twos k,(lCodes l s p k).1 = lF s.1 p rs
 | 0,p,s=>⟨[],by simp [twos],rfl⟩
 | k + 1,p,s=>by
  have h2:=nxt_lt l s.2 (n:=2) (by omega)
  obtain ⟨rs,h,e⟩:=lCodes_mem l k (p + 1) (lAdd s.1 p (1 + (nxt l s.2 2).1),(nxt l s.2 2).2)
  refine ⟨(1 + (nxt l s.2 2).1) :: rs,?_,?_⟩
  ·rw [twos,List.mem_flatMap]
   refine ⟨rs,h,?_⟩
   rcases (show (nxt l s.2 2).1 = 0 ∨ (nxt l s.2 2).1 = 1 by omega) with e | e <;> rw [e] <;> simp
  ·rw [lCodes,e];rfl
def fam:List (List Code):=[1,2,3].flatMap fun kids=>kCodes kids :: (twos kids).map fun rs=>lF (kCodes kids) 0 rs
theorem listS_mem (l:List UInt8) (a:Nat):(listS l a).1 ∈ fam:=by
 have h3:=nxt_lt l a (n:=3) (by omega)
 unfold fam
 rw [List.mem_flatMap]
 refine ⟨1 + (nxt l a 3).1,?_,?_⟩
 ·rcases (show (nxt l a 3).1 = 0 ∨ (nxt l a 3).1 = 1 ∨ (nxt l a 3).1 = 2 by omega) with e | e | e <;> rw [e] <;> simp
 ·unfold listS
  simp only
  split
  ·simp
  ·obtain ⟨rs,h,e⟩:=lCodes_mem l (1 + (nxt l a 3).1) 0 (kCodes (1 + (nxt l a 3).1),(nxt l (nxt l a 3).2 2).2)
   rw [e]
   exact List.mem_cons_of_mem _ (List.mem_map.2 ⟨rs,h,rfl⟩)
end Go.Proofs.YtjmbhlgocikfiaaGreatDoor
