/- Chapter 1: the reference's levels, ancestors, codes of a level. Chapter 1: the reference's ancestors, codes of a level, codes with a name. -/
import Derived.Test.YtjmbhlgocikfiaaGreatDoorTB4
import Derived.Test.YtjmbhlgocikfiaaGreatDoorTE3
import Derived.Test.YtjmbhlgocikfiaaGreatDoorTB8
set_option linter.unusedVariables false
set_option linter.unnecessarySimpa false
set_option linter.unusedSimpArgs false
namespace Go.Proofs.YtjmbhlgocikfiaaGreatDoor
open Go Go.Av
attribute [local irreducible] AWp AOps AAny DQ retQ retG St.le FCall GCall
theorem lv_all:∀ (ps:List (Bool × Nat)) (l:Int),lv l ps = true → ∀ (i j:Nat) d e,ps[i]? = some (true,d) → ps[j]? = some (true,e) → d = e ∧ (0 ≤ l → (d:Int) = l)
 | [],l,_,i,j,d,e,h,_=>by simp at h
 | (lf,x) :: r,l,hl,i,j,d,e,hi,hj=>by
  unfold lv at hl
  cases lf with
  | false =>
   simp only [Bool.false_eq_true,if_false] at hl
   cases i with
   | zero=>simp at hi
   | succ i=>cases j with
    | zero=>simp at hj
    | succ j=>exact lv_all r l hl i j d e (by simpa using hi) (by simpa using hj)
  | true =>
   simp only [if_true] at hl
   split at hl
   ·cases hl
   ·rename_i hx
    have first:∀ (k:Nat) y,((true,x) :: r)[k]? = some (true,y) → (y:Int) = x:=by
     intro k y hk
     cases k with
     | zero=>simp at hk;omega
     | succ k =>
      have hk':r[k]? = some (true,y):=by simpa using hk
      exact (lv_all r x hl k k y y hk' hk').2 (by omega)
    have h1:=first i d hi
    have h2:=first j e hj
    exact ⟨by omega,fun h0=>by omega⟩
theorem chk_lv0 {nm:List UInt8} {cs:List Code} (h:chk nm cs = 0):lv (-1) (pairs cs) = true:=by
 unfold chk at h
 split at h
 ·cases h
 ·split at h
  ·cases h
  ·split at h
   ·cases h
   ·cases hs:scan [] cs with
    | some e =>
     rw [hs] at h
     have:∀ (cs pre:List Code) e,scan pre cs = some e → e = 3 ∨ e = 10 ∨ e = 6:=by
      intro cs
      induction cs with
      | nil=>intro pre e h;cases h
      | cons a r ih =>
       intro pre e h
       simp only [scan] at h
       split at h
       ·cases h;exact .inl rfl
       ·split at h
        ·cases h;exact .inr (.inl rfl)
        ·split at h
         ·cases h;exact .inr (.inr rfl)
         ·exact ih _ _ h
     have:=this _ _ _ hs
     simp only at h
     omega
    | none =>
     rw [hs] at h
     simp only at h
     split at h
     ·assumption
     ·cases h
theorem leafB_iff {cs:List Code} {c:Int}:leafB cs c = true ↔ ∀ x ∈ cs,x.parent ≠ c:=by
 simp [leafB,List.all_eq_true]
theorem last_leaf {cs:List Code} (hg:Good cs) (hn:0 < cs.length):leafB cs (cs.length - 1:Nat) = true:=by
 rw [leafB_iff]
 intro x hx
 obtain ⟨i,hi,rfl⟩:=List.getElem_of_mem hx
 rcases Nat.eq_zero_or_pos i with e | e
 ·subst e
  have:=hg.root _ (List.getElem?_eq_getElem hi)
  omega
 ·have:=hg.before i _ (List.getElem?_eq_getElem hi) e
  omega
theorem maxL_spec:∀ (ds:List Nat) (a:Nat),(∃ d ∈ a :: ds,ds.foldl max a = d) ∧ ∀ d ∈ a :: ds,d ≤ ds.foldl max a
 | [],a=>⟨⟨a,by simp,rfl⟩,fun d hd=>by simp at hd;subst hd;exact Nat.le_refl _⟩
 | x :: r,a=>by
  obtain ⟨⟨d,hd,he⟩,hall⟩:=maxL_spec r (max a x)
  refine ⟨⟨d,?_,he⟩,fun y hy=>?_⟩
  ·rcases List.mem_cons.1 hd with h | h
   ·rcases Nat.le_total a x with h2 | h2
    ·rw [Nat.max_eq_right h2] at h;simp [h]
    ·rw [Nat.max_eq_left h2] at h;simp [h]
   ·simp [h]
  ·have h1:=hall (max a x) (by simp)
   rcases List.mem_cons.1 hy with h | h
   ·subst h;show _ ≤ List.foldl max (max y x) r;omega
   ·rcases List.mem_cons.1 h with h | h
    ·subst h;show _ ≤ List.foldl max (max a y) r;omega
    ·exact hall y (by simp [h])
theorem maxL_ge {ds:List Nat} {i d:Nat} (h:ds[i]? = some d):d ≤ maxL ds:=(maxL_spec ds 0).2 d (by simp [List.mem_of_getElem? h])
theorem maxL_at {ds:List Nat} (h:0 < ds.length):∃ i:Nat,ds[i]? = some (maxL ds):=by
 obtain ⟨⟨d,hd,he⟩,hall⟩:=maxL_spec ds 0
 have he:maxL ds = d:=he
 rw [he]
 rcases List.mem_cons.1 hd with h2 | h2
 ·subst h2
  refine ⟨0,?_⟩
  have:=hall ds[0] (by simp)
  have h3:ds.foldl max 0 = 0:=he
  rw [List.getElem?_eq_getElem h]
  congr 1;omega
 ·obtain ⟨i,hi,hh⟩:=List.getElem_of_mem h2
  exact ⟨i,by rw [List.getElem?_eq_getElem hi,hh]⟩
theorem deep_leaf {cs:List Code} (hg:Good cs) {i:Nat} (hi:i < cs.length) (hd:dep cs i = maxL (deps cs)):leafB cs i = true:=by
 rw [leafB_iff]
 intro x hx e
 obtain ⟨k,hk,rfl⟩:=List.getElem_of_mem hx
 have hk0:0 < k:=by
  rcases Nat.eq_zero_or_pos k with e2 | e2
  ·subst e2
   have:=hg.root _ (List.getElem?_eq_getElem hk)
   omega
  ·exact e2
 obtain ⟨h1,h2,h3⟩:=dep_par hg.before (List.getElem?_eq_getElem hk) hk0
 have:par cs k = i:=by omega
 rw [this] at h1
 have:=maxL_ge (dep_at hk)
 omega
theorem leaf_deep {nm:List UInt8} {cs:List Code} (h:chk nm cs = 0) {i:Nat} (hi:i < cs.length) (hl:leafB cs i = true):dep cs i = maxL (deps cs):=by
 obtain ⟨hg,hn,_⟩:=chk_good h
 obtain ⟨m,hm⟩:=maxL_at (ds:=deps cs) (by rw [deps_length];exact hn)
 have hml:m < cs.length:=by rw [← deps_length cs];exact (List.getElem?_eq_some_iff.1 hm).1
 have hmd:=dep_get hm
 have hlm:=deep_leaf hg hml hmd
 have p1:=pairs_at (dep_at hi)
 have p2:=pairs_at (dep_at hml)
 rw [hl] at p1
 rw [hlm] at p2
 rw [← hmd]
 exact (lv_all _ _ (chk_lv0 h) _ _ _ _ p1 p2).1
theorem last_max {nm:List UInt8} {cs:List Code} (h:chk nm cs = 0):dep cs (cs.length - 1) = maxL (deps cs):=by
 obtain ⟨hg,hn,_⟩:=chk_good h
 exact leaf_deep h (by omega) (last_leaf hg hn)
set_option maxHeartbeats 2000000 in
theorem rlevels_call (nm:List UInt8) (cs:List Code) (hlen:cs.length ≤ 9223372036854775807):FCall Tryz.prog 147 [lA nm cs] (.i (levelsS nm cs)):=by
 refine fci Tryz.func147 13 fun hrd E h0=>?_
 repeat' ((first | refine call_i (rcheck_call _ _ hlen) ?_ |refine aops_go ?_|refine S1 ?_|refine Z1 ?_|refine Z2 ?_|(refine And.intro ?_ ?_<;>intro h<;>try first|(exfalso;omega)|exact absurd rfl h)|refine Z3 ?_|refine Z4 ?_|intro el hel hbB|intro el hel|intro ex|refine Z5 ?_|(refine free_i ?_ ?_;exact ⟨by kernel_rfl,by decide⟩)|refine allI_c ?_ ?_|exact allI_n|refine allMP_c ?_ ?_|exact allMP_n|(refine many_step ?_ ?_ ?_;kernel_rfl;kernel_rfl)) <;> (try (conv=>whnf)))
 ·exact ret_tmp rfl (congrArg AV.i (by rw [levelsS,if_neg h]))
 have hc:chk nm cs = 0:=by omega
 have h60:=good60 hc
 obtain ⟨hg,hn,_⟩:=chk_good hc
 have hd:=deps_max hg.before
 have hl:=last_max hc
 have e:((cs.length:Int) - 1) = ((cs.length - 1:Nat):Int):=by omega
 repeat' ((first | refine call_i (args:=[lA nm cs, .i ((cs.length:Int) - 1)]) (by rw [e];exact depth_call _ _ _ _ hg hlen (dep_at (j:=cs.length - 1) (by omega))) ?_ |refine aops_go ?_|refine S1 ?_|refine Z1 ?_|refine Z2 ?_|(refine And.intro ?_ ?_<;>intro h<;>try first|(exfalso;omega)|exact absurd rfl h)|refine Z3 ?_|refine Z4 ?_|intro el hel hbB|intro el hel|intro ex|refine Z5 ?_|(refine free_i ?_ ?_;exact ⟨by kernel_rfl,by decide⟩)|refine allI_c ?_ ?_|exact allI_n|refine allMP_c ?_ ?_|exact allMP_n|(refine many_step ?_ ?_ ?_;kernel_rfl;kernel_rfl)) <;> (try (conv=>whnf)))
 exact ret_tmp rfl (congrArg AV.i (by rw [levelsS,if_pos hc,hl]))
end Go.Proofs.YtjmbhlgocikfiaaGreatDoor
namespace Go.Proofs.YtjmbhlgocikfiaaGreatDoor
open Go Go.Av
attribute [local irreducible] AWp AOps AAny MAny DQ retQ retG St.le FCall GCall
set_option maxRecDepth 100000
def lvsS (s:Sch) (column:Int):List Nat:=atS (lstOf s (colAt s column)).1 (lstOf s (colAt s column)).2 (levelsS (lstOf s (colAt s column)).1 (lstOf s (colAt s column)).2 - 1)
theorem finS_nn {s:Sch} (hr:schE s = 0) {column:Int} (h1:1 ≤ column) (h2:column < s.cols.length):0 ≤ finS s column:=by
 have hc:s.cols[column.toNat]? = some s.cols[column.toNat]:=List.getElem?_eq_getElem (by omega)
 have hcr:=col_right hr h1 hc
 rw [finS,if_neg (by omega),colAt_get hc]
 generalize s.cols[column.toNat] = c at hcr
 unfold finC
 rcases hcr with hcr | hcr
 ·rw [if_pos hcr.1]
  have hl:s.lists[c.lst.toNat]? = some (s.lists[c.lst.toNat]'(by omega)):=List.getElem?_eq_getElem (by omega)
  have hk:=(schE_parts hr).2.2.1 _ (List.mem_of_getElem? hl)
  rw [lstOf_get hl,levelsS,if_pos hk]
  omega
 ·rw [if_neg (by omega)];omega
end Go.Proofs.YtjmbhlgocikfiaaGreatDoor
