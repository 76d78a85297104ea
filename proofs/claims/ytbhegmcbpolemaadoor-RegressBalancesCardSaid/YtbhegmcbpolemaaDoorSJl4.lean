/- A matrix with another column, by the program: a row within a row is changed in place. -/
import Derived.Test.YtbhegmcbpolemaaDoorSJl3
import Derived.Test.YtbhegmcbpolemaaDoorSAvH
set_option linter.unusedVariables false
set_option linter.unnecessarySimpa false
set_option linter.unusedSimpArgs false
namespace Go.Proofs.YtbhegmcbpolemaaDoor
open Go Go.Av
attribute [local irreducible] E3 B5 F2 F0 DQ F5 G8 St.le B6 D3
set_option maxRecDepth 100000
abbrev E5 (x:Int):List AV:=[.i x]
abbrev N4 (r:List Int):List AV:=[.own 3 1 (r.map E5)]
abbrev KH:List AV:=[.v (.slice none 0 0)]
def O0 (p:List (List Int)) (n m:Nat):List (List AV):=(p.take m).map N4 ++ List.replicate (n - m) KH
theorem JF {p:List (List Int)} {n m:Nat} (hp:p.length = n) (hm:m < n):(O0 p n m)[m]? = some KH:=by
 unfold O0
 rw [List.getElem?_append_right (by simp;omega),List.length_map,List.length_take,Nat.min_eq_left (by omega),Nat.sub_self,List.getElem?_replicate,if_pos (by omega)]
theorem GG {p:List (List Int)} {n m:Nat} (hp:p.length = n) (hm:m < n) {r:List Int} (hr:p[m]? = some r):(O0 p n m).set m (N4 r) = O0 p n (m + 1):=by
 unfold O0
 have hl:((p.take m).map N4).length = m:=by rw [List.length_map,List.length_take];omega
 rw [List.set_append_right _ _ (by omega),hl,Nat.sub_self,show n - m = (n - (m + 1)) + 1 by omega,List.replicate_succ,List.set_cons_zero,List.take_add_one,hr,Option.toList_some,List.map_append,List.append_assoc]
 rfl
theorem Nl {p:List (List Int)} {n m:Nat} (hp:p.length = n) (hm:m ≤ n):(O0 p n m).length = n:=by
 unfold O0
 rw [List.length_append,List.length_map,List.length_take,List.length_replicate];omega
theorem Ph {p:List (List Int)} {n m:Nat}:∀ el ∈ O0 p n m,∀ x ∈ el,JD x = true:=by
 intro el hel x hx
 unfold O0 at hel
 rcases List.mem_append.1 hel with h | h
 ·obtain ⟨r,_,rfl⟩:=List.mem_map.1 h
  obtain rfl:=List.mem_singleton.1 hx
  rfl
 ·obtain ⟨_,rfl⟩:=List.mem_replicate.1 h
  obtain rfl:=List.mem_singleton.1 hx
  rfl
theorem Hn (n:Nat):Ln (List.replicate n KH) (List.replicate n KH):=by
 refine ⟨rfl,fun k b hb=>⟨b,hb,?_⟩⟩
 rw [List.getElem?_replicate] at hb
 split at hb
 ·cases hb;exact ⟨rfl,trivial⟩
 ·cases hb
theorem Ql {l:List (List AV)} {i:Nat} {r:List Int} (h:∀ el ∈ l,∀ x ∈ el,JD x = true):∀ el ∈ l.set i (N4 r),∀ x ∈ el,JD x = true:=by
 intro el hel x hx
 rcases List.mem_or_eq_of_mem_set hel with h2 | h2
 ·exact h el h2 x hx
 ·subst h2
  obtain rfl:=List.mem_singleton.1 hx
  rfl
theorem Nm {p:List (List Int)} {n:Nat} (hp:p.length = n):(O0 p n n).map (·.map Dh) = p.map fun r=>[C2 r]:=by
 unfold O0
 rw [Nat.sub_self,List.replicate_zero,List.append_nil,List.take_of_length_le (by omega),List.map_map]
 rfl
set_option maxHeartbeats 16000000 in
theorem GN (a:List (List Int)) (b:List Int) (c:Nat) (hr:∀ r ∈ a,r.length = a.length) (hb:b.length = a.length) (hc:c < a.length) (hn:a.length ≤ 1000):B6 Tryd.prog 47 [C3 a, .i c,C2 b] (C3 (J9 a b c)):=by
 have hpl:=BV a b c
 have hpr:∀ (i:Nat) (r:List Int) (bi:Int),a[i]? = some r → b[i]? = some bi → (J9 a b c)[i]? = some (r.set c bi):=fun i r bi h1 h2=>by
  unfold J9
  rw [List.getElem?_map,List.getElem?_range (List.getElem?_eq_some_iff.1 h1).1,Option.map_some,List.getD_eq_getElem?_getD,h1,List.getD_eq_getElem?_getD,h2];rfl
 generalize J9 a b c = p at *
 refine E1 Tryd.func47 37 fun hrd E h0=>?_
 clear hrd
 repeat' ((first|refine A6 ?_|refine S1 ?_|refine Z1 ?_|refine Z2 ?_|(refine And.intro ?_ ?_<;>intro h<;>try first|(exfalso;omega)|exact absurd rfl h)|refine Z3 ?_|refine Z4 ?_|intro el hel hbB|intro el hel|intro ex|refine Z5 ?_|(refine B2 ?_ ?_;exact ⟨by kernel_rfl,by decide⟩)|refine B0 ?_ ?_|exact A9|refine A8 ?_ ?_|exact A7|(refine A3 ?_ ?_ ?_;kernel_rfl;kernel_rfl)) <;> (try (conv=>whnf)))
 all_goals first
  | (exfalso;omega)
  | skip
 refine F4 (ι:=Nat) (fun i=>⟨[(1, .i c),(2,C2 b),(7, .row 0 0 a.length),(13,C3 a),(14, .i a.length),(15, .i i)],1,[(0,some (.row (C5 + 27) 1 0 (O0 p a.length i)))]⟩) (fun i=>i ≤ a.length) (fun i=>a.length - i) 0 (Nat.zero_le _)
  (F1 (JB (i:=0) (F:=C5) (e:=27) (.inl rfl) rfl (by intro h;cases h) (by decide) (Hn _)) (B3 h0 rfl ⟨rfl,rfl,rfl,rfl,rfl,rfl,trivial⟩ ⟨⟨_,congrArg (E0.row _ _ _) (by unfold O0;simp)⟩,trivial⟩ rfl rfl rfl)) (fun i hi=>?_)
 by_cases hil:i < a.length
 ·obtain ⟨r,hri⟩:∃ r,a[i]? = some r:=⟨_,List.getElem?_eq_getElem hil⟩
  obtain ⟨bi,hbi⟩:∃ x,b[i]? = some x:=⟨_,List.getElem?_eq_getElem (by omega)⟩
  have hri2:a[((i:Nat):Int).toNat]? = some r:=hri
  have hbi2:b[((i:Nat):Int).toNat]? = some bi:=hbi
  have hrl:=hr r (List.mem_of_getElem? hri)
  obtain ⟨xc,hxc⟩:∃ x,r[c]? = some x:=⟨_,List.getElem?_eq_getElem (by omega)⟩
  have hxc2:(r.map E5)[((((c:Nat):Int).toNat:Nat):Int).toNat]? = some [AV.i xc]:=by rw [Int.toNat_natCast,Int.toNat_natCast,List.getElem?_map,hxc];rfl
  have hpi:=hpr i r bi hri hbi
  have hat:=JF hpl hil
  have hst:=GG hpl hil hpi
  have hrlen:=Nl hpl (Nat.le_of_lt hil)
  have hml:(r.map E5).length = a.length:=by rw [List.length_map,hrl]
  have hk1:((O0 p a.length i).set i (N4 r))[i]? = some (N4 r):=List.getElem?_set_self (by omega)
  have hk2:(((O0 p a.length i).set i (N4 r)).set i ((N4 r).set 0 (.own (C4 + 2) 0 (r.map E5))))[i]? = some [.own (C4 + 2) 0 (r.map E5)]:=List.getElem?_set_self (by rw [List.length_set];omega)
  have hset:(r.map E5).set c [.i bi] = (r.set c bi).map E5:=by rw [List.map_set]
  have hnt:=Ql (r:=r) (i:=i) (Ph (p:=p) (n:=a.length) (m:=i))
  repeat' ((first | (refine B4 (x:=r) hri2 (by omega) ?_) | (refine B4 (x:=bi) hbi2 (by omega) ?_) | (refine I2 (x:=[AV.i xc]) hxc2 (by omega) ?_) | (refine GE (i:=0) hk2 rfl rfl rfl rfl rfl ?_) | (refine S7 6 ?_;refine S8 (id:=6) (σ':=⟨[(1, .i c),(2,C2 b),(7, .row 0 0 a.length),(8, .i i),(13,C3 a),(14, .i a.length),(15, .i i)],3,[(0,some (.row (Q8 + 27) 1 0 (((O0 p a.length i).set i (N4 r)).set i ((N4 r).set 0 (.own (C4 + 2) 0 (r.map E5)))))),(2,some (.row 3 1 0 (r.map E5)))]⟩) (F1 (JC (i:=0) (k:=i) (off:=0) (e:=27) rfl (by decide) hk1 rfl) (EF h0 rfl ⟨rfl,rfl,rfl,rfl,rfl,rfl,rfl,trivial⟩ ⟨⟨_,rfl⟩,⟨_,rfl⟩,trivial⟩ rfl rfl rfl)) ?_;refine Af (id:=6) ⟨[(1, .i c),(2,C2 b),(7, .row 0 0 a.length),(13,C3 a),(14, .i a.length),(15, .i i)],3,[(0,some (.row (Q8 + 27) 1 0 (((O0 p a.length i).set i (N4 r)).set i ((N4 r).set 0 (.own (C4 + 2) 0 (r.map E5)))))),(2,some (.row 3 1 0 ((r.map E5).set c [.i bi])))]⟩ ?_ ?_) |refine A6 ?_|refine S1 ?_|refine Z1 ?_|refine Z2 ?_|(refine And.intro ?_ ?_<;>intro h<;>try first|(exfalso;omega)|exact absurd rfl h)|refine Z3 ?_|refine Z4 ?_|intro el hel hbB|intro el hel|intro ex|refine Z5 ?_|(refine B2 ?_ ?_;exact ⟨by kernel_rfl,by decide⟩)|refine B0 ?_ ?_|exact A9|refine A8 ?_ ?_|exact A7|(refine A3 ?_ ?_ ?_;kernel_rfl;kernel_rfl) | (refine O4.mk (GF (i:=0) hat rfl rfl rfl rfl rfl rfl rfl rfl rfl ?_))) <;> (try (conv=>whnf)))
  all_goals first
   | (exfalso;omega)
   | exact EF h0 rfl ⟨rfl,rfl,rfl,rfl,rfl,rfl,trivial⟩ ⟨⟨_,rfl⟩,⟨_,rfl⟩,trivial⟩ rfl rfl rfl
   | exact ⟨i + 1,by omega,by omega,F1 (JE (i:=0) (m:=2) (e:=27) rfl (by decide) hk1 (by decide) rfl (by decide) (by decide) hnt) (B3 h0 rfl ⟨rfl,rfl,rfl,rfl,rfl,rfl,trivial⟩ ⟨⟨_,congrArg (E0.row _ _ _) (by rw [hset,List.set_set];exact hst.symm)⟩,trivial⟩ rfl rfl rfl)⟩
 ·have hii:i = a.length:=by omega
  subst hii
  refine o7 (F1 (GD (i:=0) (F:=C5) (e:=27) (.inl rfl) rfl (by decide) (Nm hpl).symm) (B3 (σ':=⟨[(7, .row 0 0 a.length),(14, .i a.length),(15, .i a.length)],1,[(0,some (.row 27 1 0 (p.map fun r=>[C2 r])))]⟩) h0 rfl ⟨rfl,rfl,rfl,trivial⟩ ⟨⟨_,rfl⟩,trivial⟩ rfl rfl rfl)) ?_
  repeat' ((first|refine A6 ?_|refine S1 ?_|refine Z1 ?_|refine Z2 ?_|(refine And.intro ?_ ?_<;>intro h<;>try first|(exfalso;omega)|exact absurd rfl h)|refine Z3 ?_|refine Z4 ?_|intro el hel hbB|intro el hel|intro ex|refine Z5 ?_|(refine B2 ?_ ?_;exact ⟨by kernel_rfl,by decide⟩)|refine B0 ?_ ?_|exact A9|refine A8 ?_ ?_|exact A7|(refine A3 ?_ ?_ ?_;kernel_rfl;kernel_rfl)) <;> (try (conv=>whnf)))
  all_goals first
   | (exfalso;omega)
   | exact C1 rfl rfl
end Go.Proofs.YtbhegmcbpolemaaDoor
