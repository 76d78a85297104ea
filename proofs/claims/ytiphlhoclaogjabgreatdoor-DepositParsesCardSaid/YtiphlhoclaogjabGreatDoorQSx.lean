/- Chapter 1: the reference's levels, ancestors, codes of a level. Chapter 1: the reference's ancestors, codes of a level, codes with a name. -/
import Derived.Test.YtiphlhoclaogjabGreatDoorQB4
import Derived.Test.YtiphlhoclaogjabGreatDoorQE3
import Derived.Test.YtiphlhoclaogjabGreatDoorQB8
set_option linter.unusedVariables false
set_option linter.unnecessarySimpa false
set_option linter.unusedSimpArgs false
namespace Go.Proofs.YtiphlhoclaogjabGreatDoor
open Go Go.Av
attribute [local irreducible] D6 B8 D8 DQ E0 E1 St.le B4 B9
theorem Lr {nm:List UInt8} {cs:List Code} {code:Int}:hasB nm cs code = true ↔ 0 ≤ code ∧ code < cs.length ∧ chk nm cs = 0:=by
 simp [hasB,and_assoc]
theorem RF {nm:List UInt8} {cs:List Code} {code:Int} (h:¬ (0 ≤ code ∧ code < cs.length ∧ chk nm cs = 0)):-1 = Ao nm cs code:=by
 rw [Ao,if_neg (fun h2=>h (Lr.1 h2))]
theorem Dj {nm:List UInt8} {cs:List Code} {code:Int} (h:0 ≤ code ∧ code < cs.length ∧ chk nm cs = 0):(s8 cs code.toNat:Int) = Ao nm cs code:=by
 rw [Ao,if_pos (Lr.2 h)];rfl
set_option maxHeartbeats 2000000 in
theorem NF (nm:List UInt8) (cs:List Code) (code:Int) (hlen:cs.length ≤ 9223372036854775807):B4 Tryz.prog 120 [lA nm cs, .i code] (.i (Ao nm cs code)):=by
 refine F3 Tryz.func120 22 fun hrd E h0=>?_
 repeat' ((first | refine B2 (Ag _ _ hlen) ?_ | (refine E3 ?_ ?_;kernel_rfl) |refine A4 ?_|refine S1 ?_|refine Z1 ?_|refine Z2 ?_|(refine And.intro ?_ ?_<;>intro h<;>try first|(exfalso;omega)|exact absurd rfl h)|refine Z3 ?_|refine Z4 ?_|intro el hel hbB|intro el hel|intro ex|refine Z5 ?_|(refine A9 ?_ ?_;exact ⟨by kernel_rfl,by decide⟩)|refine A8 ?_ ?_|exact A7|refine A6 ?_ ?_|exact A5|(refine A0 ?_ ?_ ?_;kernel_rfl;kernel_rfl)) <;> (try (conv=>whnf)))
 all_goals first
  | exact B5 rfl (congrArg AV.i (RF (by omega)))
  | skip
 have hg:=(M3 (nm:=nm) (cs:=cs) (by omega)).1
 obtain ⟨c,rfl⟩:=Int.eq_ofNat_of_zero_le (show 0 ≤ code by omega)
 rw [← Dj (by omega)]
 repeat' ((first | refine B2 (BJ _ _ _ _ hg hlen (Bi (j:=c) (by omega))) ?_ |refine A4 ?_|refine S1 ?_|refine Z1 ?_|refine Z2 ?_|(refine And.intro ?_ ?_<;>intro h<;>try first|(exfalso;omega)|exact absurd rfl h)|refine Z3 ?_|refine Z4 ?_|intro el hel hbB|intro el hel|intro ex|refine Z5 ?_|(refine A9 ?_ ?_;exact ⟨by kernel_rfl,by decide⟩)|refine A8 ?_ ?_|exact A7|refine A6 ?_ ?_|exact A5|(refine A0 ?_ ?_ ?_;kernel_rfl;kernel_rfl)) <;> (try (conv=>whnf)))
 exact B5 rfl rfl
theorem Hm:∀ (ps:List (Bool × Nat)) (l:Int),lv l ps = true → ∀ (i j:Nat) d e,ps[i]? = some (true,d) → ps[j]? = some (true,e) → d = e ∧ (0 ≤ l → (d:Int) = l)
 | [],l,_,i,j,d,e,h,_=>by simp at h
 | (lf,x) :: r,l,hl,i,j,d,e,hi,hj=>by
   unfold lv at hl
   cases lf with
   | false =>
     simp only [Bool.false_eq_true,if_false] at hl
     cases i with
     | zero=>simp at hi
     | succ i=>cases j with
       | zero=>simp at hj
       | succ j=>exact Hm r l hl i j d e (by simpa using hi) (by simpa using hj)
   | true =>
     simp only [if_true] at hl
     split at hl
     ·cases hl
     ·rename_i hx
      have first:∀ (k:Nat) y,((true,x) :: r)[k]? = some (true,y) → (y:Int) = x:=by
       intro k y hk
       cases k with
       | zero=>simp at hk;omega
       | succ k =>
         have hk':r[k]? = some (true,y):=by simpa using hk
         exact (Hm r x hl k k y y hk' hk').2 (by omega)
      have h1:=first i d hi
      have h2:=first j e hj
      exact ⟨by omega,fun h0=>by omega⟩
theorem Nn {nm:List UInt8} {cs:List Code} (h:chk nm cs = 0):lv (-1) (X1 cs) = true:=by
 unfold chk at h
 split at h
 ·cases h
 ·split at h
  ·cases h
  ·split at h
   ·cases h
   ·cases hs:scan [] cs with
    | some e =>
      rw [hs] at h
      have:∀ (cs pre:List Code) e,scan pre cs = some e → e = 3 ∨ e = 10 ∨ e = 6:=by
       intro cs
       induction cs with
       | nil=>intro pre e h;cases h
       | cons a r ih =>
         intro pre e h
         simp only [scan] at h
         split at h
         ·cases h;exact .inl rfl
         ·split at h
          ·cases h;exact .inr (.inl rfl)
          ·split at h
           ·cases h;exact .inr (.inr rfl)
           ·exact ih _ _ h
      have:=this _ _ _ hs
      simp only at h
      omega
    | none =>
      rw [hs] at h
      simp only at h
      split at h
      ·assumption
      ·cases h
theorem Jh {cs:List Code} {c:Int}:Q3 cs c = true ↔ ∀ x ∈ cs,x.parent ≠ c:=by
 simp [Q3,List.all_eq_true]
theorem RG {cs:List Code} (hg:Good cs) (hn:0 < cs.length):Q3 cs (cs.length - 1:Nat) = true:=by
 rw [Jh]
 intro x hx
 obtain ⟨i,hi,rfl⟩:=List.getElem_of_mem hx
 rcases Nat.eq_zero_or_pos i with e | e
 ·subst e
  have:=hg.root _ (List.getElem?_eq_getElem hi)
  omega
 ·have:=hg.before i _ (List.getElem?_eq_getElem hi) e
  omega
theorem El:∀ (ds:List Nat) (a:Nat),(∃ d ∈ a :: ds,ds.foldl max a = d) ∧ ∀ d ∈ a :: ds,d ≤ ds.foldl max a
 | [],a=>⟨⟨a,by simp,rfl⟩,fun d hd=>by simp at hd;subst hd;exact Nat.le_refl _⟩
 | x :: r,a=>by
   obtain ⟨⟨d,hd,he⟩,hall⟩:=El r (max a x)
   refine ⟨⟨d,?_,he⟩,fun y hy=>?_⟩
   ·rcases List.mem_cons.1 hd with h | h
    ·rcases Nat.le_total a x with h2 | h2
     ·rw [Nat.max_eq_right h2] at h;simp [h]
     ·rw [Nat.max_eq_left h2] at h;simp [h]
    ·simp [h]
   ·have h1:=hall (max a x) (by simp)
    rcases List.mem_cons.1 hy with h | h
    ·subst h;show _ ≤ List.foldl max (max y x) r;omega
    ·rcases List.mem_cons.1 h with h | h
     ·subst h;show _ ≤ List.foldl max (max a y) r;omega
     ·exact hall y (by simp [h])
theorem WJ {ds:List Nat} {i d:Nat} (h:ds[i]? = some d):d ≤ Cc ds:=(El ds 0).2 d (by simp [List.mem_of_getElem? h])
theorem Np {ds:List Nat} (h:0 < ds.length):∃ i:Nat,ds[i]? = some (Cc ds):=by
 obtain ⟨⟨d,hd,he⟩,hall⟩:=El ds 0
 have he:Cc ds = d:=he
 rw [he]
 rcases List.mem_cons.1 hd with h2 | h2
 ·subst h2
  refine ⟨0,?_⟩
  have:=hall ds[0] (by simp)
  have h3:ds.foldl max 0 = 0:=he
  rw [List.getElem?_eq_getElem h]
  congr 1;omega
 ·obtain ⟨i,hi,hh⟩:=List.getElem_of_mem h2
  exact ⟨i,by rw [List.getElem?_eq_getElem hi,hh]⟩
theorem Em {cs:List Code} (hg:Good cs) {i:Nat} (hi:i < cs.length) (hd:s8 cs i = Cc (M9 cs)):Q3 cs i = true:=by
 rw [Jh]
 intro x hx e
 obtain ⟨k,hk,rfl⟩:=List.getElem_of_mem hx
 have hk0:0 < k:=by
  rcases Nat.eq_zero_or_pos k with e2 | e2
  ·subst e2
   have:=hg.root _ (List.getElem?_eq_getElem hk)
   omega
  ·exact e2
 obtain ⟨h1,h2,h3⟩:=Vz hg.before (List.getElem?_eq_getElem hk) hk0
 have:par cs k = i:=by omega
 rw [this] at h1
 have:=WJ (Bi hk)
 omega
theorem RH {nm:List UInt8} {cs:List Code} (h:chk nm cs = 0) {i:Nat} (hi:i < cs.length) (hl:Q3 cs i = true):s8 cs i = Cc (M9 cs):=by
 obtain ⟨hg,hn,_⟩:=M3 h
 obtain ⟨m,hm⟩:=Np (ds:=M9 cs) (by rw [I9];exact hn)
 have hml:m < cs.length:=by rw [← I9 cs];exact (List.getElem?_eq_some_iff.1 hm).1
 have hmd:=Ij hm
 have hlm:=Em hg hml hmd
 have p1:=p8 (Bi hi)
 have p2:=p8 (Bi hml)
 rw [hl] at p1
 rw [hlm] at p2
 rw [← hmd]
 exact (Hm _ _ (Nn h) _ _ _ _ p1 p2).1
theorem TY {nm:List UInt8} {cs:List Code} (h:chk nm cs = 0):s8 cs (cs.length - 1) = Cc (M9 cs):=by
 obtain ⟨hg,hn,_⟩:=M3 h
 exact RH h (by omega) (RG hg hn)
set_option maxHeartbeats 2000000 in
theorem En (nm:List UInt8) (cs:List Code) (hlen:cs.length ≤ 9223372036854775807):B4 Tryz.prog 107 [lA nm cs] (.i (F4 nm cs)):=by
 refine F3 Tryz.func107 13 fun hrd E h0=>?_
 repeat' ((first | refine B2 (Ag _ _ hlen) ?_ |refine A4 ?_|refine S1 ?_|refine Z1 ?_|refine Z2 ?_|(refine And.intro ?_ ?_<;>intro h<;>try first|(exfalso;omega)|exact absurd rfl h)|refine Z3 ?_|refine Z4 ?_|intro el hel hbB|intro el hel|intro ex|refine Z5 ?_|(refine A9 ?_ ?_;exact ⟨by kernel_rfl,by decide⟩)|refine A8 ?_ ?_|exact A7|refine A6 ?_ ?_|exact A5|(refine A0 ?_ ?_ ?_;kernel_rfl;kernel_rfl)) <;> (try (conv=>whnf)))
 ·exact B5 rfl (congrArg AV.i (by rw [F4,if_neg h]))
 have hc:chk nm cs = 0:=by omega
 have h60:=Qx hc
 obtain ⟨hg,hn,_⟩:=M3 hc
 have hd:=Lb hg.before
 have hl:=TY hc
 have e:((cs.length:Int) - 1) = ((cs.length - 1:Nat):Int):=by omega
 repeat' ((first | refine B2 (args:=[lA nm cs, .i ((cs.length:Int) - 1)]) (by rw [e];exact BJ _ _ _ _ hg hlen (Bi (j:=cs.length - 1) (by omega))) ?_ |refine A4 ?_|refine S1 ?_|refine Z1 ?_|refine Z2 ?_|(refine And.intro ?_ ?_<;>intro h<;>try first|(exfalso;omega)|exact absurd rfl h)|refine Z3 ?_|refine Z4 ?_|intro el hel hbB|intro el hel|intro ex|refine Z5 ?_|(refine A9 ?_ ?_;exact ⟨by kernel_rfl,by decide⟩)|refine A8 ?_ ?_|exact A7|refine A6 ?_ ?_|exact A5|(refine A0 ?_ ?_ ?_;kernel_rfl;kernel_rfl)) <;> (try (conv=>whnf)))
 exact B5 rfl (congrArg AV.i (by rw [F4,if_pos hc,hl]))
end Go.Proofs.YtiphlhoclaogjabGreatDoor
namespace Go.Proofs.YtiphlhoclaogjabGreatDoor
open Go Go.Av
attribute [local irreducible] D6 B8 D8 DQ E0 E1 St.le B4 B9
set_option maxHeartbeats 2000000 in
theorem TZ (nm:List UInt8) (cs:List Code) (level:Int) (hlen:cs.length ≤ 9223372036854775807):B4 Tryz.prog 106 [lA nm cs, .i level] (.sl 1 ((O3 nm cs level).map iA)):=by
 refine F3 Tryz.func106 27 fun hrd E h0=>?_
 repeat' ((first | refine B2 (Ag _ _ hlen) ?_ |refine A4 ?_|refine S1 ?_|refine Z1 ?_|refine Z2 ?_|(refine And.intro ?_ ?_<;>intro h<;>try first|(exfalso;omega)|exact absurd rfl h)|refine Z3 ?_|refine Z4 ?_|intro el hel hbB|intro el hel|intro ex|refine Z5 ?_|(refine A9 ?_ ?_;exact ⟨by kernel_rfl,by decide⟩)|refine A8 ?_ ?_|exact A7|refine A6 ?_ ?_|exact A5|(refine A0 ?_ ?_ ?_;kernel_rfl;kernel_rfl)) <;> (try (conv=>whnf)))
 case refine_1=>exact Vl (sz:=1) rfl (by rw [O3,if_neg h];rfl)
 have hc:chk nm cs = 0:=by omega
 have h60:=Qx hc
 have hg:=(M3 hc).1
 rw [O3,if_pos hc]
 refine C2 (ι:=Nat) (fun k=>⟨[(1, .i level),(2, .ref 0 0),(5, .row 1 0 (EE cs level k).length),(6, .i k)],2,[(0,some (.box [.str nm, .sl 2 (cs.map cA)])),(1,some (.row 3 1 0 ((EE cs level k).map iA)))]⟩) (fun k=>k ≤ cs.length) (fun k=>cs.length - k) 0 (Nat.zero_le _) (C3 (AL (d:=5) (e:=3) (sz:=1) rfl) (B0 h0 rfl ⟨rfl,rfl,rfl,rfl,trivial⟩ ⟨rfl,⟨0,rfl⟩,trivial⟩ rfl rfl rfl)) (fun k hI=>?_)
 have hal:=Xi cs level k
 repeat' ((first | refine B2 (BJ _ _ _ _ hg hlen (Bi (j:=k) (by omega))) ?_ |refine A4 ?_|refine S1 ?_|refine Z1 ?_|refine Z2 ?_|(refine And.intro ?_ ?_<;>intro h<;>try first|(exfalso;omega)|exact absurd rfl h)|refine Z3 ?_|refine Z4 ?_|intro el hel hbB|intro el hel|intro ex|refine Z5 ?_|(refine A9 ?_ ?_;exact ⟨by kernel_rfl,by decide⟩)|refine A8 ?_ ?_|exact A7|refine A6 ?_ ?_|exact A5|(refine A0 ?_ ?_ ?_;kernel_rfl;kernel_rfl)) <;> (try (conv=>whnf)))
 ·refine ⟨k + 1,?_,?_,B0 h0 rfl ⟨rfl,rfl,congrArg (fun z=>some (AV.row 1 0 z)) ?_,rfl,trivial⟩ ⟨rfl,⟨0,congrArg (C6.row 3 1 0) ?_⟩,trivial⟩ rfl rfl rfl⟩
  ·omega
  ·omega
  ·rw [Nk h,List.length_append];rfl
  ·rw [Nk h,List.map_append];rfl
 ·refine ⟨k + 1,?_,?_,B0 h0 rfl ⟨rfl,rfl,congrArg (fun z=>some (AV.row 1 0 z)) ?_,rfl,trivial⟩ ⟨rfl,⟨0,congrArg (C6.row 3 1 0) ?_⟩,trivial⟩ rfl rfl rfl⟩
  ·omega
  ·omega
  ·rw [Qy h]
  ·rw [Qy h]
 ·apply B5
  ·rfl
  ·rw [show cs.length = k by omega]
   rfl
end Go.Proofs.YtiphlhoclaogjabGreatDoor
namespace Go.Proofs.YtiphlhoclaogjabGreatDoor
open Go Go.Av
attribute [local irreducible] D6 B8 D8 D7 DQ E0 E1 St.le B4 B9
set_option maxRecDepth 100000
theorem Hn {nm:List UInt8} {cs:List Code} (h:chk nm cs = 0) {v:Nat} (hv:v < cs.length):Ao nm cs v = F4 nm cs - 1 ↔ Q3 cs v = true:=by
 have hg:=(M3 h).1
 have hn:=(M3 h).2.1
 have e1:Ao nm cs v = s8 cs v:=(Dj (nm:=nm) (cs:=cs) (code:=v) ⟨by omega,by omega,h⟩).symm
 have e2:F4 nm cs = Cc (M9 cs) + 1:=by rw [F4,if_pos h]
 rw [e1,e2]
 obtain ⟨i,hi⟩:=Np (ds:=M9 cs) (by rw [I9];exact hn)
 have hil:i < cs.length:=by rw [← I9 cs];exact R6 hi
 have hdi:=Ij hi
 have hli:=Em hg hil hdi
 constructor
 ·intro e
  exact Em hg hv (by omega)
 ·intro hl
  have hp1:(X1 cs)[i]? = some (true,Cc (M9 cs)):=by rw [p8 hi,hli]
  have hp2:(X1 cs)[v]? = some (true,s8 cs v):=by rw [p8 (Bi hv),hl]
  have:=(Hm _ _ (Nn h) v i _ _ hp2 hp1).1
  omega
def Q0 (s:C4) (column:Int):List Nat:=O3 (E4 s (I7 s column)).1 (E4 s (I7 s column)).2 (F4 (E4 s (I7 s column)).1 (E4 s (I7 s column)).2 - 1)
set_option maxHeartbeats 4000000 in
theorem NG (s:C4) (column:Int) {c:C5} (hc0:0 ≤ column) (hc:s.cols[column.toNat]? = some c) (hl:0 ≤ c.lst ∧ c.lst < s.lists.length):B4 Tryz.prog 78 [sA s, .i column] (.sl 1 ((Q0 s column).map iA)):=by
 refine F3 Tryz.func78 21 fun hrd E h0=>?_
 obtain ⟨hl1,hl2,hl3⟩:=p9 (s:=s) (hrd _ (by simp))
 clear hrd
 obtain ⟨l,hlx⟩:∃ l,s.lists[c.lst.toNat]? = some l:=⟨_,List.getElem?_eq_getElem (by omega)⟩
 have hll:=hl3 l (List.mem_of_getElem? hlx)
 have hlb:=Hh (nm:=l.1) hll
 have hlev:=En l.1 l.2 hll
 have hat:=TZ l.1 l.2 (F4 l.1 l.2 - 1) hll
 have e:Q0 s column = O3 l.1 l.2 (F4 l.1 l.2 - 1):=by rw [Q0,u1 hc,V9 hlx]
 rw [e]
 repeat' ((first|refine A4 ?_|refine S1 ?_|refine Z1 ?_|refine Z2 ?_|(refine And.intro ?_ ?_<;>intro h<;>try first|(exfalso;omega)|exact absurd rfl h)|refine Z3 ?_|refine Z4 ?_|intro el hel hbB|intro el hel|intro ex|refine Z5 ?_|(refine A9 ?_ ?_;exact ⟨by kernel_rfl,by decide⟩)|refine A8 ?_ ?_|exact A7|refine A6 ?_ ?_|exact A5|(refine A0 ?_ ?_ ?_;kernel_rfl;kernel_rfl)) <;> (try (conv=>whnf)))
 refine Am ⟨[(2, .ref 0 0),(1, .i column),(5, .ref 1 0)],2,[(0,some (.box (sL s))),(1,some (.box (D3 l)))]⟩ ?_ ?_
 ·repeat' ((first | (refine A3 (x:=c) hc (by omega) ?_) | (refine A3 (x:=l) hlx (by omega) ?_) |refine A4 ?_|refine S1 ?_|refine Z1 ?_|refine Z2 ?_|(refine And.intro ?_ ?_<;>intro h<;>try first|(exfalso;omega)|exact absurd rfl h)|refine Z3 ?_|refine Z4 ?_|intro el hel hbB|intro el hel|intro ex|refine Z5 ?_|(refine A9 ?_ ?_;exact ⟨by kernel_rfl,by decide⟩)|refine A8 ?_ ?_|exact A7|refine A6 ?_ ?_|exact A5|(refine A0 ?_ ?_ ?_;kernel_rfl;kernel_rfl)) <;> (try (conv=>whnf)))
  all_goals first | exact B0 h0 rfl ⟨rfl,rfl,rfl,trivial⟩ ⟨rfl,rfl,trivial⟩ rfl rfl rfl | trace_state
 repeat' ((first | refine B2 hlev ?_ | refine B2 hat ?_ | (refine E3 ?_ ?_;kernel_rfl) |refine A4 ?_|refine S1 ?_|refine Z1 ?_|refine Z2 ?_|(refine And.intro ?_ ?_<;>intro h<;>try first|(exfalso;omega)|exact absurd rfl h)|refine Z3 ?_|refine Z4 ?_|intro el hel hbB|intro el hel|intro ex|refine Z5 ?_|(refine A9 ?_ ?_;exact ⟨by kernel_rfl,by decide⟩)|refine A8 ?_ ?_|exact A7|refine A6 ?_ ?_|exact A5|(refine A0 ?_ ?_ ?_;kernel_rfl;kernel_rfl)) <;> (try (conv=>whnf)))
 all_goals exact B5 rfl rfl
theorem WK {nm:List UInt8} {cs:List Code} {level:Int} {x:Nat} (h:x ∈ O3 nm cs level):chk nm cs = 0 ∧ x < cs.length ∧ (s8 cs x:Int) = level:=by
 unfold O3 at h
 split at h
 ·rename_i hk
  simp only [EE,List.mem_filter,List.mem_range,decide_eq_true_eq] at h
  exact ⟨hk,h.1,h.2⟩
 ·cases h
end Go.Proofs.YtiphlhoclaogjabGreatDoor
