/- A matrix with another column, by the program: a row within a row is changed in place. -/
import Derived.Test.YtbhegmcbpolemaaDoorTJl3
import Derived.Test.YtbhegmcbpolemaaDoorTAvH
set_option linter.unusedVariables false
set_option linter.unnecessarySimpa false
set_option linter.unusedSimpArgs false
namespace Go.Proofs.YtbhegmcbpolemaaDoor
open Go Go.Av
attribute [local irreducible] E4 B6 F1 E7 DQ F6 F9 St.le B5 D4
set_option maxRecDepth 100000
abbrev C3 (x:Int):List AV:=[.i x]
abbrev N7 (r:List Int):List AV:=[.own 3 1 (r.map C3)]
abbrev Jr:List AV:=[.v (.slice none 0 0)]
def O1 (p:List (List Int)) (n m:Nat):List (List AV):=(p.take m).map N7 ++ List.replicate (n - m) Jr
theorem Il {p:List (List Int)} {n m:Nat} (hp:p.length = n) (hm:m < n):(O1 p n m)[m]? = some Jr:=by
 unfold O1
 rw [List.getElem?_append_right (by simp;omega),List.length_map,List.length_take,Nat.min_eq_left (by omega),Nat.sub_self,List.getElem?_replicate,if_pos (by omega)]
theorem Fs {p:List (List Int)} {n m:Nat} (hp:p.length = n) (hm:m < n) {r:List Int} (hr:p[m]? = some r):(O1 p n m).set m (N7 r) = O1 p n (m + 1):=by
 unfold O1
 have hl:((p.take m).map N7).length = m:=by rw [List.length_map,List.length_take];omega
 rw [List.set_append_right _ _ (by omega),hl,Nat.sub_self,show n - m = (n - (m + 1)) + 1 by omega,List.replicate_succ,List.set_cons_zero,List.take_add_one,hr,Option.toList_some,List.map_append,List.append_assoc]
 rfl
theorem Mz {p:List (List Int)} {n m:Nat} (hp:p.length = n) (hm:m ≤ n):(O1 p n m).length = n:=by
 unfold O1
 rw [List.length_append,List.length_map,List.length_take,List.length_replicate];omega
theorem Ot {p:List (List Int)} {n m:Nat}:∀ el ∈ O1 p n m,∀ x ∈ el,Ij x = true:=by
 intro el hel x hx
 unfold O1 at hel
 rcases List.mem_append.1 hel with h | h
 ·obtain ⟨r,_,rfl⟩:=List.mem_map.1 h
  obtain rfl:=List.mem_singleton.1 hx
  rfl
 ·obtain ⟨_,rfl⟩:=List.mem_replicate.1 h
  obtain rfl:=List.mem_singleton.1 hx
  rfl
theorem HR (n:Nat):LI (List.replicate n Jr) (List.replicate n Jr):=by
 refine ⟨rfl,fun k b hb=>⟨b,hb,?_⟩⟩
 rw [List.getElem?_replicate] at hb
 split at hb
 ·cases hb;exact ⟨rfl,trivial⟩
 ·cases hb
theorem QA {l:List (List AV)} {i:Nat} {r:List Int} (h:∀ el ∈ l,∀ x ∈ el,Ij x = true):∀ el ∈ l.set i (N7 r),∀ x ∈ el,Ij x = true:=by
 intro el hel x hx
 rcases List.mem_or_eq_of_mem_set hel with h2 | h2
 ·exact h el h2 x hx
 ·subst h2
  obtain rfl:=List.mem_singleton.1 hx
  rfl
theorem NA {p:List (List Int)} {n:Nat} (hp:p.length = n):(O1 p n n).map (·.map DR) = p.map fun r=>[B8 r]:=by
 unfold O1
 rw [Nat.sub_self,List.replicate_zero,List.append_nil,List.take_of_length_le (by omega),List.map_map]
 rfl
set_option maxHeartbeats 16000000 in
theorem Fy (a:List (List Int)) (b:List Int) (c:Nat) (hr:∀ r ∈ a,r.length = a.length) (hb:b.length = a.length) (hc:c < a.length) (hn:a.length ≤ 1000):B5 Tryd.prog 47 [B7 a, .i c,B8 b] (B7 (I5 a b c)):=by
 have hpl:=BH a b c
 have hpr:∀ (i:Nat) (r:List Int) (bi:Int),a[i]? = some r → b[i]? = some bi → (I5 a b c)[i]? = some (r.set c bi):=fun i r bi h1 h2=>by
  unfold I5
  rw [List.getElem?_map,List.getElem?_range (List.getElem?_eq_some_iff.1 h1).1,Option.map_some,List.getD_eq_getElem?_getD,h1,List.getD_eq_getElem?_getD,h2];rfl
 generalize I5 a b c = p at *
 refine D1 Tryd.func47 37 fun hrd E h0=>?_
 clear hrd
 repeat' ((first|refine A5 ?_|refine S1 ?_|refine Z1 ?_|refine Z2 ?_|(refine And.intro ?_ ?_<;>intro h<;>try first|(exfalso;omega)|exact absurd rfl h)|refine Z3 ?_|refine Z4 ?_|intro el hel hbB|intro el hel|intro ex|refine Z5 ?_|(refine B0 ?_ ?_;exact ⟨by kernel_rfl,by decide⟩)|refine A9 ?_ ?_|exact A8|refine A7 ?_ ?_|exact A6|(refine A3 ?_ ?_ ?_;kernel_rfl;kernel_rfl)) <;> (try (conv=>whnf)))
 all_goals first
  | (exfalso;omega)
  | skip
 refine D7 (ι:=Nat) (fun i=>⟨[(1, .i c),(2,B8 b),(7, .row 0 0 a.length),(13,B7 a),(14, .i a.length),(15, .i i)],1,[(0,some (.row (C6 + 27) 1 0 (O1 p a.length i)))]⟩) (fun i=>i ≤ a.length) (fun i=>a.length - i) 0 (Nat.zero_le _)
  (E0 (Ih (i:=0) (F:=C6) (e:=27) (.inl rfl) rfl (by intro h;cases h) (by decide) (HR _)) (B4 h0 rfl ⟨rfl,rfl,rfl,rfl,rfl,rfl,trivial⟩ ⟨⟨_,congrArg (D9.row _ _ _) (by unfold O1;simp)⟩,trivial⟩ rfl rfl rfl)) (fun i hi=>?_)
 by_cases hil:i < a.length
 ·obtain ⟨r,hri⟩:∃ r,a[i]? = some r:=⟨_,List.getElem?_eq_getElem hil⟩
  obtain ⟨bi,hbi⟩:∃ x,b[i]? = some x:=⟨_,List.getElem?_eq_getElem (by omega)⟩
  have hri2:a[((i:Nat):Int).toNat]? = some r:=hri
  have hbi2:b[((i:Nat):Int).toNat]? = some bi:=hbi
  have hrl:=hr r (List.mem_of_getElem? hri)
  obtain ⟨xc,hxc⟩:∃ x,r[c]? = some x:=⟨_,List.getElem?_eq_getElem (by omega)⟩
  have hxc2:(r.map C3)[((((c:Nat):Int).toNat:Nat):Int).toNat]? = some [AV.i xc]:=by rw [Int.toNat_natCast,Int.toNat_natCast,List.getElem?_map,hxc];rfl
  have hpi:=hpr i r bi hri hbi
  have hat:=Il hpl hil
  have hst:=Fs hpl hil hpi
  have hrlen:=Mz hpl (Nat.le_of_lt hil)
  have hml:(r.map C3).length = a.length:=by rw [List.length_map,hrl]
  have hk1:((O1 p a.length i).set i (N7 r))[i]? = some (N7 r):=List.getElem?_set_self (by omega)
  have hk2:(((O1 p a.length i).set i (N7 r)).set i ((N7 r).set 0 (.own (C4 + 2) 0 (r.map C3))))[i]? = some [.own (C4 + 2) 0 (r.map C3)]:=List.getElem?_set_self (by rw [List.length_set];omega)
  have hset:(r.map C3).set c [.i bi] = (r.set c bi).map C3:=by rw [List.map_set]
  have hnt:=QA (r:=r) (i:=i) (Ot (p:=p) (n:=a.length) (m:=i))
  repeat' ((first | (refine B3 (x:=r) hri2 (by omega) ?_) | (refine B3 (x:=bi) hbi2 (by omega) ?_) | (refine H9 (x:=[AV.i xc]) hxc2 (by omega) ?_) | (refine Fp (i:=0) hk2 rfl rfl rfl rfl rfl ?_) | (refine Es 6 ?_;refine Et (id:=6) (σ':=⟨[(1, .i c),(2,B8 b),(7, .row 0 0 a.length),(8, .i i),(13,B7 a),(14, .i a.length),(15, .i i)],3,[(0,some (.row (R1 + 27) 1 0 (((O1 p a.length i).set i (N7 r)).set i ((N7 r).set 0 (.own (C4 + 2) 0 (r.map C3)))))),(2,some (.row 3 1 0 (r.map C3)))]⟩) (E0 (Ii (i:=0) (k:=i) (off:=0) (e:=27) rfl (by decide) hk1 rfl) (Dq h0 rfl ⟨rfl,rfl,rfl,rfl,rfl,rfl,rfl,trivial⟩ ⟨⟨_,rfl⟩,⟨_,rfl⟩,trivial⟩ rfl rfl rfl)) ?_;refine l6 (id:=6) ⟨[(1, .i c),(2,B8 b),(7, .row 0 0 a.length),(13,B7 a),(14, .i a.length),(15, .i i)],3,[(0,some (.row (R1 + 27) 1 0 (((O1 p a.length i).set i (N7 r)).set i ((N7 r).set 0 (.own (C4 + 2) 0 (r.map C3)))))),(2,some (.row 3 1 0 ((r.map C3).set c [.i bi])))]⟩ ?_ ?_) |refine A5 ?_|refine S1 ?_|refine Z1 ?_|refine Z2 ?_|(refine And.intro ?_ ?_<;>intro h<;>try first|(exfalso;omega)|exact absurd rfl h)|refine Z3 ?_|refine Z4 ?_|intro el hel hbB|intro el hel|intro ex|refine Z5 ?_|(refine B0 ?_ ?_;exact ⟨by kernel_rfl,by decide⟩)|refine A9 ?_ ?_|exact A8|refine A7 ?_ ?_|exact A6|(refine A3 ?_ ?_ ?_;kernel_rfl;kernel_rfl) | (refine O6.mk (Fq (i:=0) hat rfl rfl rfl rfl rfl rfl rfl rfl rfl ?_))) <;> (try (conv=>whnf)))
  all_goals first
   | (exfalso;omega)
   | exact Dq h0 rfl ⟨rfl,rfl,rfl,rfl,rfl,rfl,trivial⟩ ⟨⟨_,rfl⟩,⟨_,rfl⟩,trivial⟩ rfl rfl rfl
   | exact ⟨i + 1,by omega,by omega,E0 (Ik (i:=0) (m:=2) (e:=27) rfl (by decide) hk1 (by decide) rfl (by decide) (by decide) hnt) (B4 h0 rfl ⟨rfl,rfl,rfl,rfl,rfl,rfl,trivial⟩ ⟨⟨_,congrArg (D9.row _ _ _) (by rw [hset,List.set_set];exact hst.symm)⟩,trivial⟩ rfl rfl rfl)⟩
 ·have hii:i = a.length:=by omega
  subst hii
  refine U3 (E0 (Fo (i:=0) (F:=C6) (e:=27) (.inl rfl) rfl (by decide) (NA hpl).symm) (B4 (σ':=⟨[(7, .row 0 0 a.length),(14, .i a.length),(15, .i a.length)],1,[(0,some (.row 27 1 0 (p.map fun r=>[B8 r])))]⟩) h0 rfl ⟨rfl,rfl,rfl,trivial⟩ ⟨⟨_,rfl⟩,trivial⟩ rfl rfl rfl)) ?_
  repeat' ((first|refine A5 ?_|refine S1 ?_|refine Z1 ?_|refine Z2 ?_|(refine And.intro ?_ ?_<;>intro h<;>try first|(exfalso;omega)|exact absurd rfl h)|refine Z3 ?_|refine Z4 ?_|intro el hel hbB|intro el hel|intro ex|refine Z5 ?_|(refine B0 ?_ ?_;exact ⟨by kernel_rfl,by decide⟩)|refine A9 ?_ ?_|exact A8|refine A7 ?_ ?_|exact A6|(refine A3 ?_ ?_ ?_;kernel_rfl;kernel_rfl)) <;> (try (conv=>whnf)))
  all_goals first
   | (exfalso;omega)
   | exact B9 rfl rfl
end Go.Proofs.YtbhegmcbpolemaaDoor
