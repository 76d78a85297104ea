/- Chapter 1: the reference's levels, ancestors, codes of a level. Chapter 1: the reference's ancestors, codes of a level, codes with a name. -/
import Derived.Test.YtiphlhoclaogjabGreatDoorQB4
import Derived.Test.YtiphlhoclaogjabGreatDoorQE3
import Derived.Test.YtiphlhoclaogjabGreatDoorQB8
set_option linter.unusedVariables false
set_option linter.unnecessarySimpa false
set_option linter.unusedSimpArgs false
namespace Go.Proofs.YtiphlhoclaogjabGreatDoor
open Go Go.Av
attribute [local irreducible] D1 B5 D5 DQ D7 E0 St.le B3 B6
theorem MC {nm:List UInt8} {cs:List Code} {code:Int}:hasB nm cs code = true ↔ 0 ≤ code ∧ code < cs.length ∧ chk nm cs = 0:=by
 simp [hasB,and_assoc]
theorem RW {nm:List UInt8} {cs:List Code} {code:Int} (h:¬ (0 ≤ code ∧ code < cs.length ∧ chk nm cs = 0)):-1 = An nm cs code:=by
 rw [An,if_neg (fun h2=>h (MC.1 h2))]
theorem Dj {nm:List UInt8} {cs:List Code} {code:Int} (h:0 ≤ code ∧ code < cs.length ∧ chk nm cs = 0):(s9 cs code.toNat:Int) = An nm cs code:=by
 rw [An,if_pos (MC.2 h)];rfl
set_option maxHeartbeats 2000000 in
theorem NV (nm:List UInt8) (cs:List Code) (code:Int) (hlen:cs.length ≤ 9223372036854775807):B3 Tryz.prog 120 [lA nm cs, .i code] (.i (An nm cs code)):=by
 refine F3 Tryz.func120 22 fun hrd E h0=>?_
 repeat' ((first | refine A9 (Ae _ _ hlen) ?_ | (refine G3 ?_ ?_;kernel_rfl) |refine A1 ?_|refine S1 ?_|refine Z1 ?_|refine Z2 ?_|(refine And.intro ?_ ?_<;>intro h<;>try first|(exfalso;omega)|exact absurd rfl h)|refine Z3 ?_|refine Z4 ?_|intro el hel hbB|intro el hel|intro ex|refine Z5 ?_|(refine A6 ?_ ?_;exact ⟨by kernel_rfl,by decide⟩)|refine A5 ?_ ?_|exact A4|refine A3 ?_ ?_|exact A2|(refine A0 ?_ ?_ ?_;kernel_rfl;kernel_rfl)) <;> (try (conv=>whnf)))
 all_goals first
  | exact B2 rfl (congrArg AV.i (RW (by omega)))
  | skip
 have hg:=(K9 (nm:=nm) (cs:=cs) (by omega)).1
 obtain ⟨c,rfl⟩:=Int.eq_ofNat_of_zero_le (show 0 ≤ code by omega)
 rw [← Dj (by omega)]
 repeat' ((first | refine A9 (BK _ _ _ _ hg hlen (Bn (j:=c) (by omega))) ?_ |refine A1 ?_|refine S1 ?_|refine Z1 ?_|refine Z2 ?_|(refine And.intro ?_ ?_<;>intro h<;>try first|(exfalso;omega)|exact absurd rfl h)|refine Z3 ?_|refine Z4 ?_|intro el hel hbB|intro el hel|intro ex|refine Z5 ?_|(refine A6 ?_ ?_;exact ⟨by kernel_rfl,by decide⟩)|refine A5 ?_ ?_|exact A4|refine A3 ?_ ?_|exact A2|(refine A0 ?_ ?_ ?_;kernel_rfl;kernel_rfl)) <;> (try (conv=>whnf)))
 exact B2 rfl rfl
theorem Ho:∀ (ps:List (Bool × Nat)) (l:Int),lv l ps = true → ∀ (i j:Nat) d e,ps[i]? = some (true,d) → ps[j]? = some (true,e) → d = e ∧ (0 ≤ l → (d:Int) = l)
 | [],l,_,i,j,d,e,h,_=>by simp at h
 | (lf,x) :: r,l,hl,i,j,d,e,hi,hj=>by
   unfold lv at hl
   cases lf with
   | false =>
     simp only [Bool.false_eq_true,if_false] at hl
     cases i with
     | zero=>simp at hi
     | succ i=>cases j with
       | zero=>simp at hj
       | succ j=>exact Ho r l hl i j d e (by simpa using hi) (by simpa using hj)
   | true =>
     simp only [if_true] at hl
     split at hl
     ·cases hl
     ·rename_i hx
      have first:∀ (k:Nat) y,((true,x) :: r)[k]? = some (true,y) → (y:Int) = x:=by
       intro k y hk
       cases k with
       | zero=>simp at hk;omega
       | succ k =>
         have hk':r[k]? = some (true,y):=by simpa using hk
         exact (Ho r x hl k k y y hk' hk').2 (by omega)
      have h1:=first i d hi
      have h2:=first j e hj
      exact ⟨by omega,fun h0=>by omega⟩
theorem OH {nm:List UInt8} {cs:List Code} (h:chk nm cs = 0):lv (-1) (X2 cs) = true:=by
 unfold chk at h
 split at h
 ·cases h
 ·split at h
  ·cases h
  ·split at h
   ·cases h
   ·cases hs:scan [] cs with
    | some e =>
      rw [hs] at h
      have:∀ (cs pre:List Code) e,scan pre cs = some e → e = 3 ∨ e = 10 ∨ e = 6:=by
       intro cs
       induction cs with
       | nil=>intro pre e h;cases h
       | cons a r ih =>
         intro pre e h
         simp only [scan] at h
         split at h
         ·cases h;exact .inl rfl
         ·split at h
          ·cases h;exact .inr (.inl rfl)
          ·split at h
           ·cases h;exact .inr (.inr rfl)
           ·exact ih _ _ h
      have:=this _ _ _ hs
      simp only at h
      omega
    | none =>
      rw [hs] at h
      simp only at h
      split at h
      ·assumption
      ·cases h
theorem Jn {cs:List Code} {c:Int}:P7 cs c = true ↔ ∀ x ∈ cs,x.parent ≠ c:=by
 simp [P7,List.all_eq_true]
theorem RX {cs:List Code} (hg:Good cs) (hn:0 < cs.length):P7 cs (cs.length - 1:Nat) = true:=by
 rw [Jn]
 intro x hx
 obtain ⟨i,hi,rfl⟩:=List.getElem_of_mem hx
 rcases Nat.eq_zero_or_pos i with e | e
 ·subst e
  have:=hg.root _ (List.getElem?_eq_getElem hi)
  omega
 ·have:=hg.before i _ (List.getElem?_eq_getElem hi) e
  omega
theorem Ee:∀ (ds:List Nat) (a:Nat),(∃ d ∈ a :: ds,ds.foldl max a = d) ∧ ∀ d ∈ a :: ds,d ≤ ds.foldl max a
 | [],a=>⟨⟨a,by simp,rfl⟩,fun d hd=>by simp at hd;subst hd;exact Nat.le_refl _⟩
 | x :: r,a=>by
   obtain ⟨⟨d,hd,he⟩,hall⟩:=Ee r (max a x)
   refine ⟨⟨d,?_,he⟩,fun y hy=>?_⟩
   ·rcases List.mem_cons.1 hd with h | h
    ·rcases Nat.le_total a x with h2 | h2
     ·rw [Nat.max_eq_right h2] at h;simp [h]
     ·rw [Nat.max_eq_left h2] at h;simp [h]
    ·simp [h]
   ·have h1:=hall (max a x) (by simp)
    rcases List.mem_cons.1 hy with h | h
    ·subst h;show _ ≤ List.foldl max (max y x) r;omega
    ·rcases List.mem_cons.1 h with h | h
     ·subst h;show _ ≤ List.foldl max (max a y) r;omega
     ·exact hall y (by simp [h])
theorem Wk {ds:List Nat} {i d:Nat} (h:ds[i]? = some d):d ≤ Ce ds:=(Ee ds 0).2 d (by simp [List.mem_of_getElem? h])
theorem OI {ds:List Nat} (h:0 < ds.length):∃ i:Nat,ds[i]? = some (Ce ds):=by
 obtain ⟨⟨d,hd,he⟩,hall⟩:=Ee ds 0
 have he:Ce ds = d:=he
 rw [he]
 rcases List.mem_cons.1 hd with h2 | h2
 ·subst h2
  refine ⟨0,?_⟩
  have:=hall ds[0] (by simp)
  have h3:ds.foldl max 0 = 0:=he
  rw [List.getElem?_eq_getElem h]
  congr 1;omega
 ·obtain ⟨i,hi,hh⟩:=List.getElem_of_mem h2
  exact ⟨i,by rw [List.getElem?_eq_getElem hi,hh]⟩
theorem Ef {cs:List Code} (hg:Good cs) {i:Nat} (hi:i < cs.length) (hd:s9 cs i = Ce (L9 cs)):P7 cs i = true:=by
 rw [Jn]
 intro x hx e
 obtain ⟨k,hk,rfl⟩:=List.getElem_of_mem hx
 have hk0:0 < k:=by
  rcases Nat.eq_zero_or_pos k with e2 | e2
  ·subst e2
   have:=hg.root _ (List.getElem?_eq_getElem hk)
   omega
  ·exact e2
 obtain ⟨h1,h2,h3⟩:=WY hg.before (List.getElem?_eq_getElem hk) hk0
 have:par cs k = i:=by omega
 rw [this] at h1
 have:=Wk (Bn hk)
 omega
theorem RY {nm:List UInt8} {cs:List Code} (h:chk nm cs = 0) {i:Nat} (hi:i < cs.length) (hl:P7 cs i = true):s9 cs i = Ce (L9 cs):=by
 obtain ⟨hg,hn,_⟩:=K9 h
 obtain ⟨m,hm⟩:=OI (ds:=L9 cs) (by rw [I2];exact hn)
 have hml:m < cs.length:=by rw [← I2 cs];exact (List.getElem?_eq_some_iff.1 hm).1
 have hmd:=Io hm
 have hlm:=Ef hg hml hmd
 have p1:=q0 (Bn hi)
 have p2:=q0 (Bn hml)
 rw [hl] at p1
 rw [hlm] at p2
 rw [← hmd]
 exact (Ho _ _ (OH h) _ _ _ _ p1 p2).1
theorem Tz {nm:List UInt8} {cs:List Code} (h:chk nm cs = 0):s9 cs (cs.length - 1) = Ce (L9 cs):=by
 obtain ⟨hg,hn,_⟩:=K9 h
 exact RY h (by omega) (RX hg hn)
set_option maxHeartbeats 2000000 in
theorem Eg (nm:List UInt8) (cs:List Code) (hlen:cs.length ≤ 9223372036854775807):B3 Tryz.prog 107 [lA nm cs] (.i (E8 nm cs)):=by
 refine F3 Tryz.func107 13 fun hrd E h0=>?_
 repeat' ((first | refine A9 (Ae _ _ hlen) ?_ |refine A1 ?_|refine S1 ?_|refine Z1 ?_|refine Z2 ?_|(refine And.intro ?_ ?_<;>intro h<;>try first|(exfalso;omega)|exact absurd rfl h)|refine Z3 ?_|refine Z4 ?_|intro el hel hbB|intro el hel|intro ex|refine Z5 ?_|(refine A6 ?_ ?_;exact ⟨by kernel_rfl,by decide⟩)|refine A5 ?_ ?_|exact A4|refine A3 ?_ ?_|exact A2|(refine A0 ?_ ?_ ?_;kernel_rfl;kernel_rfl)) <;> (try (conv=>whnf)))
 ·exact B2 rfl (congrArg AV.i (by rw [E8,if_neg h]))
 have hc:chk nm cs = 0:=by omega
 have h60:=RN hc
 obtain ⟨hg,hn,_⟩:=K9 hc
 have hd:=Lk hg.before
 have hl:=Tz hc
 have e:((cs.length:Int) - 1) = ((cs.length - 1:Nat):Int):=by omega
 repeat' ((first | refine A9 (args:=[lA nm cs, .i ((cs.length:Int) - 1)]) (by rw [e];exact BK _ _ _ _ hg hlen (Bn (j:=cs.length - 1) (by omega))) ?_ |refine A1 ?_|refine S1 ?_|refine Z1 ?_|refine Z2 ?_|(refine And.intro ?_ ?_<;>intro h<;>try first|(exfalso;omega)|exact absurd rfl h)|refine Z3 ?_|refine Z4 ?_|intro el hel hbB|intro el hel|intro ex|refine Z5 ?_|(refine A6 ?_ ?_;exact ⟨by kernel_rfl,by decide⟩)|refine A5 ?_ ?_|exact A4|refine A3 ?_ ?_|exact A2|(refine A0 ?_ ?_ ?_;kernel_rfl;kernel_rfl)) <;> (try (conv=>whnf)))
 exact B2 rfl (congrArg AV.i (by rw [E8,if_pos hc,hl]))
end Go.Proofs.YtiphlhoclaogjabGreatDoor
namespace Go.Proofs.YtiphlhoclaogjabGreatDoor
open Go Go.Av
attribute [local irreducible] D1 B5 D5 DQ D7 E0 St.le B3 B6
set_option maxHeartbeats 2000000 in
theorem UA (nm:List UInt8) (cs:List Code) (level:Int) (hlen:cs.length ≤ 9223372036854775807):B3 Tryz.prog 106 [lA nm cs, .i level] (.sl 1 ((N4 nm cs level).map iA)):=by
 refine F3 Tryz.func106 27 fun hrd E h0=>?_
 repeat' ((first | refine A9 (Ae _ _ hlen) ?_ |refine A1 ?_|refine S1 ?_|refine Z1 ?_|refine Z2 ?_|(refine And.intro ?_ ?_<;>intro h<;>try first|(exfalso;omega)|exact absurd rfl h)|refine Z3 ?_|refine Z4 ?_|intro el hel hbB|intro el hel|intro ex|refine Z5 ?_|(refine A6 ?_ ?_;exact ⟨by kernel_rfl,by decide⟩)|refine A5 ?_ ?_|exact A4|refine A3 ?_ ?_|exact A2|(refine A0 ?_ ?_ ?_;kernel_rfl;kernel_rfl)) <;> (try (conv=>whnf)))
 case refine_1=>exact WI (sz:=1) rfl (by rw [N4,if_neg h];rfl)
 have hc:chk nm cs = 0:=by omega
 have h60:=RN hc
 have hg:=(K9 hc).1
 rw [N4,if_pos hc]
 refine C5 (ι:=Nat) (fun k=>⟨[(1, .i level),(2, .ref 0 0),(5, .row 1 0 (Dz cs level k).length),(6, .i k)],2,[(0,some (.box [.str nm, .sl 2 (cs.map cA)])),(1,some (.row 3 1 0 ((Dz cs level k).map iA)))]⟩) (fun k=>k ≤ cs.length) (fun k=>cs.length - k) 0 (Nat.zero_le _) (C7 (Bi (d:=5) (e:=3) (sz:=1) rfl) (A8 h0 rfl ⟨rfl,rfl,rfl,rfl,trivial⟩ ⟨rfl,⟨0,rfl⟩,trivial⟩ rfl rfl rfl)) (fun k hI=>?_)
 have hal:=Xy cs level k
 repeat' ((first | refine A9 (BK _ _ _ _ hg hlen (Bn (j:=k) (by omega))) ?_ |refine A1 ?_|refine S1 ?_|refine Z1 ?_|refine Z2 ?_|(refine And.intro ?_ ?_<;>intro h<;>try first|(exfalso;omega)|exact absurd rfl h)|refine Z3 ?_|refine Z4 ?_|intro el hel hbB|intro el hel|intro ex|refine Z5 ?_|(refine A6 ?_ ?_;exact ⟨by kernel_rfl,by decide⟩)|refine A5 ?_ ?_|exact A4|refine A3 ?_ ?_|exact A2|(refine A0 ?_ ?_ ?_;kernel_rfl;kernel_rfl)) <;> (try (conv=>whnf)))
 ·refine ⟨k + 1,?_,?_,A8 h0 rfl ⟨rfl,rfl,congrArg (fun z=>some (AV.row 1 0 z)) ?_,rfl,trivial⟩ ⟨rfl,⟨0,congrArg (C0.row 3 1 0) ?_⟩,trivial⟩ rfl rfl rfl⟩
  ·omega
  ·omega
  ·rw [OC h,List.length_append];rfl
  ·rw [OC h,List.map_append];rfl
 ·refine ⟨k + 1,?_,?_,A8 h0 rfl ⟨rfl,rfl,congrArg (fun z=>some (AV.row 1 0 z)) ?_,rfl,trivial⟩ ⟨rfl,⟨0,congrArg (C0.row 3 1 0) ?_⟩,trivial⟩ rfl rfl rfl⟩
  ·omega
  ·omega
  ·rw [RO h]
  ·rw [RO h]
 ·apply B2
  ·rfl
  ·rw [show cs.length = k by omega]
   rfl
end Go.Proofs.YtiphlhoclaogjabGreatDoor
namespace Go.Proofs.YtiphlhoclaogjabGreatDoor
open Go Go.Av
attribute [local irreducible] D1 B5 D5 D3 DQ D7 E0 St.le B3 B6
set_option maxRecDepth 100000
theorem Hq {nm:List UInt8} {cs:List Code} (h:chk nm cs = 0) {v:Nat} (hv:v < cs.length):An nm cs v = E8 nm cs - 1 ↔ P7 cs v = true:=by
 have hg:=(K9 h).1
 have hn:=(K9 h).2.1
 have e1:An nm cs v = s9 cs v:=(Dj (nm:=nm) (cs:=cs) (code:=v) ⟨by omega,by omega,h⟩).symm
 have e2:E8 nm cs = Ce (L9 cs) + 1:=by rw [E8,if_pos h]
 rw [e1,e2]
 obtain ⟨i,hi⟩:=OI (ds:=L9 cs) (by rw [I2];exact hn)
 have hil:i < cs.length:=by rw [← I2 cs];exact R0 hi
 have hdi:=Io hi
 have hli:=Ef hg hil hdi
 constructor
 ·intro e
  exact Ef hg hv (by omega)
 ·intro hl
  have hp1:(X2 cs)[i]? = some (true,Ce (L9 cs)):=by rw [q0 hi,hli]
  have hp2:(X2 cs)[v]? = some (true,s9 cs v):=by rw [q0 (Bn hv),hl]
  have:=(Ho _ _ (OH h) v i _ _ hp2 hp1).1
  omega
def P5 (s:B8) (column:Int):List Nat:=N4 (D2 s (I0 s column)).1 (D2 s (I0 s column)).2 (E8 (D2 s (I0 s column)).1 (D2 s (I0 s column)).2 - 1)
set_option maxHeartbeats 4000000 in
theorem NW (s:B8) (column:Int) {c:C1} (hc0:0 ≤ column) (hc:s.cols[column.toNat]? = some c) (hl:0 ≤ c.lst ∧ c.lst < s.lists.length):B3 Tryz.prog 78 [sA s, .i column] (.sl 1 ((P5 s column).map iA)):=by
 refine F3 Tryz.func78 21 fun hrd E h0=>?_
 obtain ⟨hl1,hl2,hl3⟩:=j6 (s:=s) (hrd _ (by simp))
 clear hrd
 obtain ⟨l,hlx⟩:∃ l,s.lists[c.lst.toNat]? = some l:=⟨_,List.getElem?_eq_getElem (by omega)⟩
 have hll:=hl3 l (List.mem_of_getElem? hlx)
 have hlb:=Hk (nm:=l.1) hll
 have hlev:=Eg l.1 l.2 hll
 have hat:=UA l.1 l.2 (E8 l.1 l.2 - 1) hll
 have e:P5 s column = N4 l.1 l.2 (E8 l.1 l.2 - 1):=by rw [P5,u4 hc,P4 hlx]
 rw [e]
 repeat' ((first|refine A1 ?_|refine S1 ?_|refine Z1 ?_|refine Z2 ?_|(refine And.intro ?_ ?_<;>intro h<;>try first|(exfalso;omega)|exact absurd rfl h)|refine Z3 ?_|refine Z4 ?_|intro el hel hbB|intro el hel|intro ex|refine Z5 ?_|(refine A6 ?_ ?_;exact ⟨by kernel_rfl,by decide⟩)|refine A5 ?_ ?_|exact A4|refine A3 ?_ ?_|exact A2|(refine A0 ?_ ?_ ?_;kernel_rfl;kernel_rfl)) <;> (try (conv=>whnf)))
 refine Al ⟨[(2, .ref 0 0),(1, .i column),(5, .ref 1 0)],2,[(0,some (.box (sL s))),(1,some (.box (F2 l)))]⟩ ?_ ?_
 ·repeat' ((first | (refine A7 (x:=c) hc (by omega) ?_) | (refine A7 (x:=l) hlx (by omega) ?_) |refine A1 ?_|refine S1 ?_|refine Z1 ?_|refine Z2 ?_|(refine And.intro ?_ ?_<;>intro h<;>try first|(exfalso;omega)|exact absurd rfl h)|refine Z3 ?_|refine Z4 ?_|intro el hel hbB|intro el hel|intro ex|refine Z5 ?_|(refine A6 ?_ ?_;exact ⟨by kernel_rfl,by decide⟩)|refine A5 ?_ ?_|exact A4|refine A3 ?_ ?_|exact A2|(refine A0 ?_ ?_ ?_;kernel_rfl;kernel_rfl)) <;> (try (conv=>whnf)))
  all_goals first | exact A8 h0 rfl ⟨rfl,rfl,rfl,trivial⟩ ⟨rfl,rfl,trivial⟩ rfl rfl rfl | trace_state
 repeat' ((first | refine A9 hlev ?_ | refine A9 hat ?_ | (refine G3 ?_ ?_;kernel_rfl) |refine A1 ?_|refine S1 ?_|refine Z1 ?_|refine Z2 ?_|(refine And.intro ?_ ?_<;>intro h<;>try first|(exfalso;omega)|exact absurd rfl h)|refine Z3 ?_|refine Z4 ?_|intro el hel hbB|intro el hel|intro ex|refine Z5 ?_|(refine A6 ?_ ?_;exact ⟨by kernel_rfl,by decide⟩)|refine A5 ?_ ?_|exact A4|refine A3 ?_ ?_|exact A2|(refine A0 ?_ ?_ ?_;kernel_rfl;kernel_rfl)) <;> (try (conv=>whnf)))
 all_goals exact B2 rfl rfl
theorem Wl {nm:List UInt8} {cs:List Code} {level:Int} {x:Nat} (h:x ∈ N4 nm cs level):chk nm cs = 0 ∧ x < cs.length ∧ (s9 cs x:Int) = level:=by
 unfold N4 at h
 split at h
 ·rename_i hk
  simp only [Dz,List.mem_filter,List.mem_range,decide_eq_true_eq] at h
  exact ⟨hk,h.1,h.2⟩
 ·cases h
end Go.Proofs.YtiphlhoclaogjabGreatDoor
