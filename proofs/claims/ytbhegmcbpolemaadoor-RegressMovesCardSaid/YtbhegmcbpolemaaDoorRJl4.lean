/- A matrix with another column, by the program: a row within a row is changed in place. -/
import Derived.Test.YtbhegmcbpolemaaDoorRJl3
import Derived.Test.YtbhegmcbpolemaaDoorRAvH
set_option linter.unusedVariables false
set_option linter.unnecessarySimpa false
set_option linter.unusedSimpArgs false
namespace Go.Proofs.YtbhegmcbpolemaaDoor
open Go Go.Av
attribute [local irreducible] E2 B3 F6 E9 DQ G2 H3 St.le B4 D7
set_option maxRecDepth 100000
abbrev D9 (x:Int):List AV:=[.i x]
abbrev N7 (r:List Int):List AV:=[.own 3 1 (r.map D9)]
abbrev KK:List AV:=[.v (.slice none 0 0)]
def O3 (p:List (List Int)) (n m:Nat):List (List AV):=(p.take m).map N7 ++ List.replicate (n - m) KK
theorem JF {p:List (List Int)} {n m:Nat} (hp:p.length = n) (hm:m < n):(O3 p n m)[m]? = some KK:=by
 unfold O3
 rw [List.getElem?_append_right (by simp;omega),List.length_map,List.length_take,Nat.min_eq_left (by omega),Nat.sub_self,List.getElem?_replicate,if_pos (by omega)]
theorem Fp {p:List (List Int)} {n m:Nat} (hp:p.length = n) (hm:m < n) {r:List Int} (hr:p[m]? = some r):(O3 p n m).set m (N7 r) = O3 p n (m + 1):=by
 unfold O3
 have hl:((p.take m).map N7).length = m:=by rw [List.length_map,List.length_take];omega
 rw [List.set_append_right _ _ (by omega),hl,Nat.sub_self,show n - m = (n - (m + 1)) + 1 by omega,List.replicate_succ,List.set_cons_zero,List.take_add_one,hr,Option.toList_some,List.map_append,List.append_assoc]
 rfl
theorem Nk {p:List (List Int)} {n m:Nat} (hp:p.length = n) (hm:m ≤ n):(O3 p n m).length = n:=by
 unfold O3
 rw [List.length_append,List.length_map,List.length_take,List.length_replicate];omega
theorem Pc {p:List (List Int)} {n m:Nat}:∀ el ∈ O3 p n m,∀ x ∈ el,JD x = true:=by
 intro el hel x hx
 unfold O3 at hel
 rcases List.mem_append.1 hel with h | h
 ·obtain ⟨r,_,rfl⟩:=List.mem_map.1 h
  obtain rfl:=List.mem_singleton.1 hx
  rfl
 ·obtain ⟨_,rfl⟩:=List.mem_replicate.1 h
  obtain rfl:=List.mem_singleton.1 hx
  rfl
theorem He (n:Nat):Lr (List.replicate n KK) (List.replicate n KK):=by
 refine ⟨rfl,fun k b hb=>⟨b,hb,?_⟩⟩
 rw [List.getElem?_replicate] at hb
 split at hb
 ·cases hb;exact ⟨rfl,trivial⟩
 ·cases hb
theorem QZ {l:List (List AV)} {i:Nat} {r:List Int} (h:∀ el ∈ l,∀ x ∈ el,JD x = true):∀ el ∈ l.set i (N7 r),∀ x ∈ el,JD x = true:=by
 intro el hel x hx
 rcases List.mem_or_eq_of_mem_set hel with h2 | h2
 ·exact h el h2 x hx
 ·subst h2
  obtain rfl:=List.mem_singleton.1 hx
  rfl
theorem Nl {p:List (List Int)} {n:Nat} (hp:p.length = n):(O3 p n n).map (·.map DV) = p.map fun r=>[B8 r]:=by
 unfold O3
 rw [Nat.sub_self,List.replicate_zero,List.append_nil,List.take_of_length_le (by omega),List.map_map]
 rfl
set_option maxHeartbeats 16000000 in
theorem Fv (a:List (List Int)) (b:List Int) (c:Nat) (hr:∀ r ∈ a,r.length = a.length) (hb:b.length = a.length) (hc:c < a.length) (hn:a.length ≤ 1000):B4 Tryd.prog 47 [D1 a, .i c,B8 b] (D1 (K0 a b c)):=by
 have hpl:=BQ a b c
 have hpr:∀ (i:Nat) (r:List Int) (bi:Int),a[i]? = some r → b[i]? = some bi → (K0 a b c)[i]? = some (r.set c bi):=fun i r bi h1 h2=>by
  unfold K0
  rw [List.getElem?_map,List.getElem?_range (List.getElem?_eq_some_iff.1 h1).1,Option.map_some,List.getD_eq_getElem?_getD,h1,List.getD_eq_getElem?_getD,h2];rfl
 generalize K0 a b c = p at *
 refine E4 Tryd.func47 37 fun hrd E h0=>?_
 clear hrd
 repeat' ((first|refine A6 ?_|refine S1 ?_|refine Z1 ?_|refine Z2 ?_|(refine And.intro ?_ ?_<;>intro h<;>try first|(exfalso;omega)|exact absurd rfl h)|refine Z3 ?_|refine Z4 ?_|intro el hel hbB|intro el hel|intro ex|refine Z5 ?_|(refine B2 ?_ ?_;exact ⟨by kernel_rfl,by decide⟩)|refine B0 ?_ ?_|exact A9|refine A8 ?_ ?_|exact A7|(refine A3 ?_ ?_ ?_;kernel_rfl;kernel_rfl)) <;> (try (conv=>whnf)))
 all_goals first
  | (exfalso;omega)
  | skip
 refine H2 (ι:=Nat) (fun i=>⟨[(1, .i c),(2,B8 b),(7, .row 0 0 a.length),(13,D1 a),(14, .i a.length),(15, .i i)],1,[(0,some (.row (C4 + 27) 1 0 (O3 p a.length i)))]⟩) (fun i=>i ≤ a.length) (fun i=>a.length - i) 0 (Nat.zero_le _)
  (D8 (JB (i:=0) (F:=C4) (e:=27) (.inl rfl) rfl (by intro h;cases h) (by decide) (He _)) (B5 h0 rfl ⟨rfl,rfl,rfl,rfl,rfl,rfl,trivial⟩ ⟨⟨_,congrArg (E3.row _ _ _) (by unfold O3;simp)⟩,trivial⟩ rfl rfl rfl)) (fun i hi=>?_)
 by_cases hil:i < a.length
 ·obtain ⟨r,hri⟩:∃ r,a[i]? = some r:=⟨_,List.getElem?_eq_getElem hil⟩
  obtain ⟨bi,hbi⟩:∃ x,b[i]? = some x:=⟨_,List.getElem?_eq_getElem (by omega)⟩
  have hri2:a[((i:Nat):Int).toNat]? = some r:=hri
  have hbi2:b[((i:Nat):Int).toNat]? = some bi:=hbi
  have hrl:=hr r (List.mem_of_getElem? hri)
  obtain ⟨xc,hxc⟩:∃ x,r[c]? = some x:=⟨_,List.getElem?_eq_getElem (by omega)⟩
  have hxc2:(r.map D9)[((((c:Nat):Int).toNat:Nat):Int).toNat]? = some [AV.i xc]:=by rw [Int.toNat_natCast,Int.toNat_natCast,List.getElem?_map,hxc];rfl
  have hpi:=hpr i r bi hri hbi
  have hat:=JF hpl hil
  have hst:=Fp hpl hil hpi
  have hrlen:=Nk hpl (Nat.le_of_lt hil)
  have hml:(r.map D9).length = a.length:=by rw [List.length_map,hrl]
  have hk1:((O3 p a.length i).set i (N7 r))[i]? = some (N7 r):=List.getElem?_set_self (by omega)
  have hk2:(((O3 p a.length i).set i (N7 r)).set i ((N7 r).set 0 (.own (C6 + 2) 0 (r.map D9))))[i]? = some [.own (C6 + 2) 0 (r.map D9)]:=List.getElem?_set_self (by rw [List.length_set];omega)
  have hset:(r.map D9).set c [.i bi] = (r.set c bi).map D9:=by rw [List.map_set]
  have hnt:=QZ (r:=r) (i:=i) (Pc (p:=p) (n:=a.length) (m:=i))
  repeat' ((first | (refine B6 (x:=r) hri2 (by omega) ?_) | (refine B6 (x:=bi) hbi2 (by omega) ?_) | (refine N0 (x:=[AV.i xc]) hxc2 (by omega) ?_) | (refine Fm (i:=0) hk2 rfl rfl rfl rfl rfl ?_) | (refine Ae 6 ?_;refine Af (id:=6) (σ':=⟨[(1, .i c),(2,B8 b),(7, .row 0 0 a.length),(8, .i i),(13,D1 a),(14, .i a.length),(15, .i i)],3,[(0,some (.row (Q9 + 27) 1 0 (((O3 p a.length i).set i (N7 r)).set i ((N7 r).set 0 (.own (C6 + 2) 0 (r.map D9)))))),(2,some (.row 3 1 0 (r.map D9)))]⟩) (D8 (JC (i:=0) (k:=i) (off:=0) (e:=27) rfl (by decide) hk1 rfl) (Dt h0 rfl ⟨rfl,rfl,rfl,rfl,rfl,rfl,rfl,trivial⟩ ⟨⟨_,rfl⟩,⟨_,rfl⟩,trivial⟩ rfl rfl rfl)) ?_;refine m6 (id:=6) ⟨[(1, .i c),(2,B8 b),(7, .row 0 0 a.length),(13,D1 a),(14, .i a.length),(15, .i i)],3,[(0,some (.row (Q9 + 27) 1 0 (((O3 p a.length i).set i (N7 r)).set i ((N7 r).set 0 (.own (C6 + 2) 0 (r.map D9)))))),(2,some (.row 3 1 0 ((r.map D9).set c [.i bi])))]⟩ ?_ ?_) |refine A6 ?_|refine S1 ?_|refine Z1 ?_|refine Z2 ?_|(refine And.intro ?_ ?_<;>intro h<;>try first|(exfalso;omega)|exact absurd rfl h)|refine Z3 ?_|refine Z4 ?_|intro el hel hbB|intro el hel|intro ex|refine Z5 ?_|(refine B2 ?_ ?_;exact ⟨by kernel_rfl,by decide⟩)|refine B0 ?_ ?_|exact A9|refine A8 ?_ ?_|exact A7|(refine A3 ?_ ?_ ?_;kernel_rfl;kernel_rfl) | (refine O7.mk (Fo (i:=0) hat rfl rfl rfl rfl rfl rfl rfl rfl rfl ?_))) <;> (try (conv=>whnf)))
  all_goals first
   | (exfalso;omega)
   | exact Dt h0 rfl ⟨rfl,rfl,rfl,rfl,rfl,rfl,trivial⟩ ⟨⟨_,rfl⟩,⟨_,rfl⟩,trivial⟩ rfl rfl rfl
   | exact ⟨i + 1,by omega,by omega,D8 (JE (i:=0) (m:=2) (e:=27) rfl (by decide) hk1 (by decide) rfl (by decide) (by decide) hnt) (B5 h0 rfl ⟨rfl,rfl,rfl,rfl,rfl,rfl,trivial⟩ ⟨⟨_,congrArg (E3.row _ _ _) (by rw [hset,List.set_set];exact hst.symm)⟩,trivial⟩ rfl rfl rfl)⟩
 ·have hii:i = a.length:=by omega
  subst hii
  refine Y4 (D8 (Fl (i:=0) (F:=C4) (e:=27) (.inl rfl) rfl (by decide) (Nl hpl).symm) (B5 (σ':=⟨[(7, .row 0 0 a.length),(14, .i a.length),(15, .i a.length)],1,[(0,some (.row 27 1 0 (p.map fun r=>[B8 r])))]⟩) h0 rfl ⟨rfl,rfl,rfl,trivial⟩ ⟨⟨_,rfl⟩,trivial⟩ rfl rfl rfl)) ?_
  repeat' ((first|refine A6 ?_|refine S1 ?_|refine Z1 ?_|refine Z2 ?_|(refine And.intro ?_ ?_<;>intro h<;>try first|(exfalso;omega)|exact absurd rfl h)|refine Z3 ?_|refine Z4 ?_|intro el hel hbB|intro el hel|intro ex|refine Z5 ?_|(refine B2 ?_ ?_;exact ⟨by kernel_rfl,by decide⟩)|refine B0 ?_ ?_|exact A9|refine A8 ?_ ?_|exact A7|(refine A3 ?_ ?_ ?_;kernel_rfl;kernel_rfl)) <;> (try (conv=>whnf)))
  all_goals first
   | (exfalso;omega)
   | exact C2 rfl rfl
end Go.Proofs.YtbhegmcbpolemaaDoor
