/- A matrix with another column, by the program: a row within a row is changed in place. -/
import Derived.Test.YtbhegmcbpolemaaDoorQJl3
import Derived.Test.YtbhegmcbpolemaaDoorQAvH
set_option linter.unusedVariables false
set_option linter.unnecessarySimpa false
set_option linter.unusedSimpArgs false
namespace Go.Proofs.YtbhegmcbpolemaaDoor
open Go Go.Av
attribute [local irreducible] E2 B3 G0 F3 DQ H4 H7 St.le B7 E1
set_option maxRecDepth 100000
abbrev C9 (x:Int):List AV:=[.i x]
abbrev N1 (r:List Int):List AV:=[.own 3 1 (r.map C9)]
abbrev Je:List AV:=[.v (.slice none 0 0)]
def N6 (p:List (List Int)) (n m:Nat):List (List AV):=(p.take m).map N1 ++ List.replicate (n - m) Je
theorem IU {p:List (List Int)} {n m:Nat} (hp:p.length = n) (hm:m < n):(N6 p n m)[m]? = some Je:=by
 unfold N6
 rw [List.getElem?_append_right (by simp;omega),List.length_map,List.length_take,Nat.min_eq_left (by omega),Nat.sub_self,List.getElem?_replicate,if_pos (by omega)]
theorem FO {p:List (List Int)} {n m:Nat} (hp:p.length = n) (hm:m < n) {r:List Int} (hr:p[m]? = some r):(N6 p n m).set m (N1 r) = N6 p n (m + 1):=by
 unfold N6
 have hl:((p.take m).map N1).length = m:=by rw [List.length_map,List.length_take];omega
 rw [List.set_append_right _ _ (by omega),hl,Nat.sub_self,show n - m = (n - (m + 1)) + 1 by omega,List.replicate_succ,List.set_cons_zero,List.take_add_one,hr,Option.toList_some,List.map_append,List.append_assoc]
 rfl
theorem Mv {p:List (List Int)} {n m:Nat} (hp:p.length = n) (hm:m ≤ n):(N6 p n m).length = n:=by
 unfold N6
 rw [List.length_append,List.length_map,List.length_take,List.length_replicate];omega
theorem Oi {p:List (List Int)} {n m:Nat}:∀ el ∈ N6 p n m,∀ x ∈ el,IQ x = true:=by
 intro el hel x hx
 unfold N6 at hel
 rcases List.mem_append.1 hel with h | h
 ·obtain ⟨r,_,rfl⟩:=List.mem_map.1 h
  obtain rfl:=List.mem_singleton.1 hx
  rfl
 ·obtain ⟨_,rfl⟩:=List.mem_replicate.1 h
  obtain rfl:=List.mem_singleton.1 hx
  rfl
theorem Gz (n:Nat):LD (List.replicate n Je) (List.replicate n Je):=by
 refine ⟨rfl,fun k b hb=>⟨b,hb,?_⟩⟩
 rw [List.getElem?_replicate] at hb
 split at hb
 ·cases hb;exact ⟨rfl,trivial⟩
 ·cases hb
theorem Pr {l:List (List AV)} {i:Nat} {r:List Int} (h:∀ el ∈ l,∀ x ∈ el,IQ x = true):∀ el ∈ l.set i (N1 r),∀ x ∈ el,IQ x = true:=by
 intro el hel x hx
 rcases List.mem_or_eq_of_mem_set hel with h2 | h2
 ·exact h el h2 x hx
 ·subst h2
  obtain rfl:=List.mem_singleton.1 hx
  rfl
theorem Mw {p:List (List Int)} {n:Nat} (hp:p.length = n):(N6 p n n).map (·.map Cy) = p.map fun r=>[B9 r]:=by
 unfold N6
 rw [Nat.sub_self,List.replicate_zero,List.append_nil,List.take_of_length_le (by omega),List.map_map]
 rfl
set_option maxHeartbeats 16000000 in
theorem FU (a:List (List Int)) (b:List Int) (c:Nat) (hr:∀ r ∈ a,r.length = a.length) (hb:b.length = a.length) (hc:c < a.length) (hn:a.length ≤ 1000):B7 Tryd.prog 47 [D3 a, .i c,B9 b] (D3 (J4 a b c)):=by
 have hpl:=Ax a b c
 have hpr:∀ (i:Nat) (r:List Int) (bi:Int),a[i]? = some r → b[i]? = some bi → (J4 a b c)[i]? = some (r.set c bi):=fun i r bi h1 h2=>by
  unfold J4
  rw [List.getElem?_map,List.getElem?_range (List.getElem?_eq_some_iff.1 h1).1,Option.map_some,List.getD_eq_getElem?_getD,h1,List.getD_eq_getElem?_getD,h2];rfl
 generalize J4 a b c = p at *
 refine F0 Tryd.func47 37 fun hrd E h0=>?_
 clear hrd
 repeat' ((first|refine A5 ?_|refine S1 ?_|refine Z1 ?_|refine Z2 ?_|(refine And.intro ?_ ?_<;>intro h<;>try first|(exfalso;omega)|exact absurd rfl h)|refine Z3 ?_|refine Z4 ?_|intro el hel hbB|intro el hel|intro ex|refine Z5 ?_|(refine B2 ?_ ?_;exact ⟨by kernel_rfl,by decide⟩)|refine B0 ?_ ?_|exact A9|refine A7 ?_ ?_|exact A6|(refine A3 ?_ ?_ ?_;kernel_rfl;kernel_rfl)) <;> (try (conv=>whnf)))
 all_goals first
  | (exfalso;omega)
  | skip
 refine F4 (ι:=Nat) (fun i=>⟨[(1, .i c),(2,B9 b),(7, .row 0 0 a.length),(13,D3 a),(14, .i a.length),(15, .i i)],1,[(0,some (.row (C2 + 27) 1 0 (N6 p a.length i)))]⟩) (fun i=>i ≤ a.length) (fun i=>a.length - i) 0 (Nat.zero_le _)
  (E7 (IM (i:=0) (F:=C2) (e:=27) (.inl rfl) rfl (by intro h;cases h) (by decide) (Gz _)) (B4 h0 rfl ⟨rfl,rfl,rfl,rfl,rfl,rfl,trivial⟩ ⟨⟨_,congrArg (D9.row _ _ _) (by unfold N6;simp)⟩,trivial⟩ rfl rfl rfl)) (fun i hi=>?_)
 by_cases hil:i < a.length
 ·obtain ⟨r,hri⟩:∃ r,a[i]? = some r:=⟨_,List.getElem?_eq_getElem hil⟩
  obtain ⟨bi,hbi⟩:∃ x,b[i]? = some x:=⟨_,List.getElem?_eq_getElem (by omega)⟩
  have hri2:a[((i:Nat):Int).toNat]? = some r:=hri
  have hbi2:b[((i:Nat):Int).toNat]? = some bi:=hbi
  have hrl:=hr r (List.mem_of_getElem? hri)
  obtain ⟨xc,hxc⟩:∃ x,r[c]? = some x:=⟨_,List.getElem?_eq_getElem (by omega)⟩
  have hxc2:(r.map C9)[((((c:Nat):Int).toNat:Nat):Int).toNat]? = some [AV.i xc]:=by rw [Int.toNat_natCast,Int.toNat_natCast,List.getElem?_map,hxc];rfl
  have hpi:=hpr i r bi hri hbi
  have hat:=IU hpl hil
  have hst:=FO hpl hil hpi
  have hrlen:=Mv hpl (Nat.le_of_lt hil)
  have hml:(r.map C9).length = a.length:=by rw [List.length_map,hrl]
  have hk1:((N6 p a.length i).set i (N1 r))[i]? = some (N1 r):=List.getElem?_set_self (by omega)
  have hk2:(((N6 p a.length i).set i (N1 r)).set i ((N1 r).set 0 (.own (C4 + 2) 0 (r.map C9))))[i]? = some [.own (C4 + 2) 0 (r.map C9)]:=List.getElem?_set_self (by rw [List.length_set];omega)
  have hset:(r.map C9).set c [.i bi] = (r.set c bi).map C9:=by rw [List.map_set]
  have hnt:=Pr (r:=r) (i:=i) (Oi (p:=p) (n:=a.length) (m:=i))
  repeat' ((first | (refine B5 (x:=r) hri2 (by omega) ?_) | (refine B5 (x:=bi) hbi2 (by omega) ?_) | (refine G9 (x:=[AV.i xc]) hxc2 (by omega) ?_) | (refine FM (i:=0) hk2 rfl rfl rfl rfl rfl ?_) | (refine Hz 6 ?_;refine IB (id:=6) (σ':=⟨[(1, .i c),(2,B9 b),(7, .row 0 0 a.length),(8, .i i),(13,D3 a),(14, .i a.length),(15, .i i)],3,[(0,some (.row (Q3 + 27) 1 0 (((N6 p a.length i).set i (N1 r)).set i ((N1 r).set 0 (.own (C4 + 2) 0 (r.map C9)))))),(2,some (.row 3 1 0 (r.map C9)))]⟩) (E7 (IP (i:=0) (k:=i) (off:=0) (e:=27) rfl (by decide) hk1 rfl) (DX h0 rfl ⟨rfl,rfl,rfl,rfl,rfl,rfl,rfl,trivial⟩ ⟨⟨_,rfl⟩,⟨_,rfl⟩,trivial⟩ rfl rfl rfl)) ?_;refine p9 (id:=6) ⟨[(1, .i c),(2,B9 b),(7, .row 0 0 a.length),(13,D3 a),(14, .i a.length),(15, .i i)],3,[(0,some (.row (Q3 + 27) 1 0 (((N6 p a.length i).set i (N1 r)).set i ((N1 r).set 0 (.own (C4 + 2) 0 (r.map C9)))))),(2,some (.row 3 1 0 ((r.map C9).set c [.i bi])))]⟩ ?_ ?_) |refine A5 ?_|refine S1 ?_|refine Z1 ?_|refine Z2 ?_|(refine And.intro ?_ ?_<;>intro h<;>try first|(exfalso;omega)|exact absurd rfl h)|refine Z3 ?_|refine Z4 ?_|intro el hel hbB|intro el hel|intro ex|refine Z5 ?_|(refine B2 ?_ ?_;exact ⟨by kernel_rfl,by decide⟩)|refine B0 ?_ ?_|exact A9|refine A7 ?_ ?_|exact A6|(refine A3 ?_ ?_ ?_;kernel_rfl;kernel_rfl) | (refine O0.mk (FN (i:=0) hat rfl rfl rfl rfl rfl rfl rfl rfl rfl ?_))) <;> (try (conv=>whnf)))
  all_goals first
   | (exfalso;omega)
   | exact DX h0 rfl ⟨rfl,rfl,rfl,rfl,rfl,rfl,trivial⟩ ⟨⟨_,rfl⟩,⟨_,rfl⟩,trivial⟩ rfl rfl rfl
   | exact ⟨i + 1,by omega,by omega,E7 (IR (i:=0) (m:=2) (e:=27) rfl (by decide) hk1 (by decide) rfl (by decide) (by decide) hnt) (B4 h0 rfl ⟨rfl,rfl,rfl,rfl,rfl,rfl,trivial⟩ ⟨⟨_,congrArg (D9.row _ _ _) (by rw [hset,List.set_set];exact hst.symm)⟩,trivial⟩ rfl rfl rfl)⟩
 ·have hii:i = a.length:=by omega
  subst hii
  refine T8 (E7 (FL (i:=0) (F:=C2) (e:=27) (.inl rfl) rfl (by decide) (Mw hpl).symm) (B4 (σ':=⟨[(7, .row 0 0 a.length),(14, .i a.length),(15, .i a.length)],1,[(0,some (.row 27 1 0 (p.map fun r=>[B9 r])))]⟩) h0 rfl ⟨rfl,rfl,rfl,trivial⟩ ⟨⟨_,rfl⟩,trivial⟩ rfl rfl rfl)) ?_
  repeat' ((first|refine A5 ?_|refine S1 ?_|refine Z1 ?_|refine Z2 ?_|(refine And.intro ?_ ?_<;>intro h<;>try first|(exfalso;omega)|exact absurd rfl h)|refine Z3 ?_|refine Z4 ?_|intro el hel hbB|intro el hel|intro ex|refine Z5 ?_|(refine B2 ?_ ?_;exact ⟨by kernel_rfl,by decide⟩)|refine B0 ?_ ?_|exact A9|refine A7 ?_ ?_|exact A6|(refine A3 ?_ ?_ ?_;kernel_rfl;kernel_rfl)) <;> (try (conv=>whnf)))
  all_goals first
   | (exfalso;omega)
   | exact C6 rfl rfl
end Go.Proofs.YtbhegmcbpolemaaDoor
