/- Sums of products, by the program: the walk. -/
import Derived.Test.YtbhegmcbpolemaaDoorTJm1
set_option linter.unusedVariables false
set_option linter.unnecessarySimpa false
set_option linter.unusedSimpArgs false
namespace Go.Proofs.YtbhegmcbpolemaaDoor
open Go Go.Av
attribute [local irreducible] E4 B6 F1 E7 DQ F6 F9 St.le B5 D4
set_option maxRecDepth 100000
set_option maxHeartbeats 32000000 in
theorem CF (l:List (List Int)) (n:Nat) (hw:H8 l = n) (hl:1 ≤ l.length ∧ l.length ≤ 200) (hn:1 ≤ n ∧ n ≤ 5) (hr:∀ r ∈ l,r.length = n ∧ ∀ x ∈ r, -1000000 ≤ x ∧ x ≤ 1000000):B5 Tryd.prog 25 [B7 l] (B7 (G9 l n)):=by
 obtain ⟨r0,hr0⟩:∃ r,l[0]? = some r:=⟨_,List.getElem?_eq_getElem (by omega)⟩
 have hr00:l[((0:Int)).toNat]? = some r0:=hr0
 have hrl0:r0.length = n:=by rw [← hw];exact (X6 hr0).symm
 refine D1 Tryd.func25 64 fun hrd E h0=>?_
 clear hrd
 repeat' ((first | (refine B3 (x:=r0) hr00 (by omega) ?_) |refine A5 ?_|refine S1 ?_|refine Z1 ?_|refine Z2 ?_|(refine And.intro ?_ ?_<;>intro h<;>try first|(exfalso;omega)|exact absurd rfl h)|refine Z3 ?_|refine Z4 ?_|intro el hel hbB|intro el hel|intro ex|refine Z5 ?_|(refine B0 ?_ ?_;exact ⟨by kernel_rfl,by decide⟩)|refine A9 ?_ ?_|exact A8|refine A7 ?_ ?_|exact A6|(refine A3 ?_ ?_ ?_;kernel_rfl;kernel_rfl)) <;> (try (conv=>whnf)))
 all_goals first
  | (exfalso;omega)
  | skip
 subst hrl0
 generalize hnn:r0.length = n at *
 refine D7 (ι:=Nat) (fun i=>⟨[(0,B7 l),(3, .row 0 0 n),(17, .i n),(18, .i i)],1,[(0,some (.row (C6 + 27) 1 0 (O1 (List.replicate n (List.replicate n 0)) n i)))]⟩) (fun i=>i ≤ n) (fun i=>n - i) 0 (Nat.zero_le _)
  (E0 (Ih (i:=0) (F:=C6) (e:=27) (.inl rfl) rfl (by intro h;cases h) (by decide) (HR _)) (B4 h0 rfl ⟨rfl,rfl,rfl,rfl,trivial⟩ ⟨⟨_,congrArg (D9.row _ _ _) (by unfold O1;simp)⟩,trivial⟩ rfl rfl rfl)) (fun i hi=>?_)
 by_cases hil:i < n
 ·have hpl:(List.replicate n (List.replicate n (0:Int))).length = n:=by simp
  have hat:=Il hpl hil
  have hst:=Fs hpl hil (r:=List.replicate n 0) (by rw [List.getElem?_replicate,if_pos hil])
  have hz:List.replicate n [AV.i 0] = (List.replicate n (0:Int)).map C3:=by rw [List.map_replicate]
  repeat' ((first|refine A5 ?_|refine S1 ?_|refine Z1 ?_|refine Z2 ?_|(refine And.intro ?_ ?_<;>intro h<;>try first|(exfalso;omega)|exact absurd rfl h)|refine Z3 ?_|refine Z4 ?_|intro el hel hbB|intro el hel|intro ex|refine Z5 ?_|(refine B0 ?_ ?_;exact ⟨by kernel_rfl,by decide⟩)|refine A9 ?_ ?_|exact A8|refine A7 ?_ ?_|exact A6|(refine A3 ?_ ?_ ?_;kernel_rfl;kernel_rfl) | (refine O6.mk (Fq (i:=0) hat rfl rfl rfl rfl rfl rfl rfl rfl rfl ?_))) <;> (try (conv=>whnf)))
  all_goals first
   | (exfalso;omega)
   | exact ⟨i + 1,by omega,by omega,B4 h0 rfl ⟨rfl,rfl,rfl,rfl,trivial⟩ ⟨⟨_,congrArg (D9.row _ _ _) (by rw [← hst];exact congrArg (fun z=>(O1 (List.replicate n (List.replicate n (0:Int))) n i).set i [AV.own 3 1 z]) hz.symm)⟩,trivial⟩ rfl rfl rfl⟩
 have hii:i = n:=by omega
 subst hii
 rw [NC (by simp)]
 have hz0:List.replicate i (List.replicate i (0:Int)) = G9 (l.take 0) i:=by
  rw [DS]
  unfold Z0 E5
  simp [C8,List.map_const']
 rw [hz0]
 repeat' ((first|refine A5 ?_|refine S1 ?_|refine Z1 ?_|refine Z2 ?_|(refine And.intro ?_ ?_<;>intro h<;>try first|(exfalso;omega)|exact absurd rfl h)|refine Z3 ?_|refine Z4 ?_|intro el hel hbB|intro el hel|intro ex|refine Z5 ?_|(refine B0 ?_ ?_;exact ⟨by kernel_rfl,by decide⟩)|refine A9 ?_ ?_|exact A8|refine A7 ?_ ?_|exact A6|(refine A3 ?_ ?_ ?_;kernel_rfl;kernel_rfl)) <;> (try (conv=>whnf)))
 all_goals first
  | (exfalso;omega)
  | skip
 refine D7 (ι:=Nat) (fun k=>⟨[(3, .row 0 0 i),(28,B7 l),(29, .i l.length),(30, .i k)],1,[(0,some (.row (C6 + 27) 1 0 (u4 (G9 (l.take k) i))))]⟩) (fun k=>k ≤ l.length) (fun k=>l.length - k) 0 (Nat.zero_le _)
  (B4 h0 rfl ⟨rfl,rfl,rfl,rfl,trivial⟩ ⟨⟨_,rfl⟩,trivial⟩ rfl rfl rfl) (fun k hk=>?_)
 by_cases hkl:k < l.length
 ·obtain ⟨r,hrk⟩:∃ r,l[k]? = some r:=⟨_,List.getElem?_eq_getElem hkl⟩
  have hrk2:l[((k:Nat):Int).toNat]? = some r:=hrk
  obtain ⟨hrl,hrb⟩:=hr r (List.mem_of_getElem? hrk)
  rw [← Qq l k i r]
  repeat' ((first | (refine B3 (x:=r) hrk2 (by omega) ?_) |refine A5 ?_|refine S1 ?_|refine Z1 ?_|refine Z2 ?_|(refine And.intro ?_ ?_<;>intro h<;>try first|(exfalso;omega)|exact absurd rfl h)|refine Z3 ?_|refine Z4 ?_|intro el hel hbB|intro el hel|intro ex|refine Z5 ?_|(refine B0 ?_ ?_;exact ⟨by kernel_rfl,by decide⟩)|refine A9 ?_ ?_|exact A8|refine A7 ?_ ?_|exact A6|(refine A3 ?_ ?_ ?_;kernel_rfl;kernel_rfl)) <;> (try (conv=>whnf)))
  all_goals first
   | (exfalso;omega)
   | skip
  refine D7 (ι:=Nat) (fun u=>⟨[(3, .row 0 0 i),(6,B8 r),(28,B7 l),(29, .i l.length),(30, .i k),(34,B8 r),(35, .i r.length),(36, .i u)],1,[(0,some (.row (C6 + 27) 1 0 (u4 (Z0 i (P8 l k r u)))))]⟩) (fun u=>u ≤ i) (fun u=>i - u) 0 (Nat.zero_le _)
   (B4 h0 rfl ⟨rfl,rfl,rfl,rfl,rfl,rfl,rfl,rfl,trivial⟩ ⟨⟨_,rfl⟩,trivial⟩ rfl rfl rfl) (fun u hu=>?_)
  by_cases hul:u < i
  ·obtain ⟨x,hx⟩:∃ x,r[u]? = some x:=⟨_,List.getElem?_eq_getElem (by omega)⟩
   have hx2:r[((u:Nat):Int).toNat]? = some x:=hx
   have hxb:=hrb x (List.mem_of_getElem? hx)
   have hxg:r.getD u 0 = x:=by rw [List.getD_eq_getElem?_getD,hx];rfl
   have hmk:(u4 (Z0 i (P8 l k r u)))[u]? = some (N7 (E5 i (K5 l k r u 0))):=by
    rw [List.getElem?_map,QD _ hul,QE];rfl
   have hnt:=Ov (p:=Z0 i (P8 l k r u))
   have hst:=ND (l:=l) (i:=k) (n:=i) (u:=u) (r:=r)
   have hml:(u4 (Z0 i (P8 l k r u))).length = i:=by rw [List.length_map,Ou]
   repeat' ((first | (refine B3 (x:=x) hx2 (by omega) ?_) |refine A5 ?_|refine S1 ?_|refine Z1 ?_|refine Z2 ?_|(refine And.intro ?_ ?_<;>intro h<;>try first|(exfalso;omega)|exact absurd rfl h)|refine Z3 ?_|refine Z4 ?_|intro el hel hbB|intro el hel|intro ex|refine Z5 ?_|(refine B0 ?_ ?_;exact ⟨by kernel_rfl,by decide⟩)|refine A9 ?_ ?_|exact A8|refine A7 ?_ ?_|exact A6|(refine A3 ?_ ?_ ?_;kernel_rfl;kernel_rfl)) <;> (try (conv=>whnf)))
   all_goals first
    | (exfalso;omega)
    | skip
   refine D7 (ι:=Nat) (fun v=>⟨[(3, .row 0 0 i),(6,B8 r),(7, .i u),(8, .i x),(28,B7 l),(29, .i l.length),(30, .i k),(34,B8 r),(35, .i r.length),(36, .i u),(41,B8 r),(42, .i r.length),(43, .i v)],2,[(0,some (.row (R1 + 27) 1 0 ((u4 (Z0 i (P8 l k r u))).set u ((N7 (E5 i (K5 l k r u 0))).set 0 (.own (C4 + 1) 0 ((E5 i (K5 l k r u 0)).map C3)))))),(1,some (.row 3 1 0 ((E5 i (K5 l k r u v)).map C3)))]⟩) (fun v=>v ≤ i) (fun v=>i - v) 0 (Nat.zero_le _)
    (E0 (Ii (i:=0) (k:=u) (off:=0) (e:=27) rfl (by decide) hmk rfl) (Dq h0 rfl ⟨rfl,rfl,rfl,rfl,rfl,rfl,rfl,rfl,rfl,rfl,rfl,rfl,rfl,trivial⟩ ⟨⟨_,rfl⟩,⟨_,rfl⟩,trivial⟩ rfl rfl rfl)) (fun v hv=>?_)
   have hk2:((u4 (Z0 i (P8 l k r u))).set u ((N7 (E5 i (K5 l k r u 0))).set 0 (.own (C4 + 1) 0 ((E5 i (K5 l k r u 0)).map C3))))[u]? = some [.own (C4 + 1) 0 ((E5 i (K5 l k r u 0)).map C3)]:=List.getElem?_set_self (by omega)
   by_cases hvl:v < i
   ·obtain ⟨y,hy⟩:∃ y,r[v]? = some y:=⟨_,List.getElem?_eq_getElem (by omega)⟩
    have hy2:r[((v:Nat):Int).toNat]? = some y:=hy
    have hyb:=hrb y (List.mem_of_getElem? hy)
    have hyg:r.getD v 0 = y:=by rw [List.getD_eq_getElem?_getD,hy];rfl
    have hml2:((E5 i (K5 l k r u 0)).map C3).length = i:=by rw [List.length_map,U8]
    have hml3:((E5 i (K5 l k r u v)).map C3).length = i:=by rw [List.length_map,U8]
    have hcell:((E5 i (K5 l k r u v)).map C3)[((((v:Nat):Int).toNat:Nat):Int).toNat]? = some (C3 (K5 l k r u v v)):=by rw [Int.toNat_natCast,Int.toNat_natCast,List.getElem?_map,EV _ hvl];rfl
    have hbd:=Io (i:=k) (a:=u) (b:=v) hl.2 hr
    have hmb:=p6 hxb hyb
    have hnew:K5 l k r u (v + 1) v = K5 l k r u v v + x * y:=by unfold K5;rw [if_pos (by omega),if_neg (by omega),hxg,hyg];omega
    have hac:-200000000000000 ≤ K5 l k r u v v ∧ K5 l k r u v v ≤ 200000000000000:=by unfold K5;rw [if_neg (by omega),Int.add_zero];exact hbd
    have hset:=LJ (l:=l) (i:=k) (n:=i) (u:=u) (v:=v) (r:=r)
    rw [hnew] at hset
    repeat' ((first | (refine B3 (x:=y) hy2 (by omega) ?_) | (refine Fp (i:=0) hk2 rfl rfl rfl rfl rfl ?_) | (refine H9 (x:=C3 (K5 l k r u v v)) hcell (by omega) ?_) |refine A5 ?_|refine S1 ?_|refine Z1 ?_|refine Z2 ?_|(refine And.intro ?_ ?_<;>intro h<;>try first|(exfalso;omega)|exact absurd rfl h)|refine Z3 ?_|refine Z4 ?_|intro el hel hbB|intro el hel|intro ex|refine Z5 ?_|(refine B0 ?_ ?_;exact ⟨by kernel_rfl,by decide⟩)|refine A9 ?_ ?_|exact A8|refine A7 ?_ ?_|exact A6|(refine A3 ?_ ?_ ?_;kernel_rfl;kernel_rfl)) <;> (try (conv=>whnf)))
    all_goals first
     | (exfalso;omega)
     | exact ⟨v + 1,by omega,by omega,Dq h0 rfl ⟨rfl,rfl,rfl,rfl,rfl,rfl,rfl,rfl,rfl,rfl,rfl,rfl,rfl,trivial⟩ ⟨⟨_,rfl⟩,⟨_,congrArg (D9.row _ _ _) hset.symm⟩,trivial⟩ rfl rfl rfl⟩
   ·have hvv:v = i:=by omega
    subst hvv
    repeat' ((first|refine A5 ?_|refine S1 ?_|refine Z1 ?_|refine Z2 ?_|(refine And.intro ?_ ?_<;>intro h<;>try first|(exfalso;omega)|exact absurd rfl h)|refine Z3 ?_|refine Z4 ?_|intro el hel hbB|intro el hel|intro ex|refine Z5 ?_|(refine B0 ?_ ?_;exact ⟨by kernel_rfl,by decide⟩)|refine A9 ?_ ?_|exact A8|refine A7 ?_ ?_|exact A6|(refine A3 ?_ ?_ ?_;kernel_rfl;kernel_rfl)) <;> (try (conv=>whnf)))
    all_goals first
     | (exfalso;omega)
     | exact ⟨u + 1,by omega,by omega,E0 (Ik (i:=0) (m:=1) (e:=27) rfl (by decide) hmk (by decide) rfl (by decide) (by decide) hnt) (B4 h0 rfl ⟨rfl,rfl,rfl,rfl,rfl,rfl,rfl,rfl,trivial⟩ ⟨⟨_,congrArg (D9.row _ _ _) hst.symm⟩,trivial⟩ rfl rfl rfl)⟩
  ·have huu:u = i:=by omega
   subst huu
   rw [Qr hrk]
   repeat' ((first|refine A5 ?_|refine S1 ?_|refine Z1 ?_|refine Z2 ?_|(refine And.intro ?_ ?_<;>intro h<;>try first|(exfalso;omega)|exact absurd rfl h)|refine Z3 ?_|refine Z4 ?_|intro el hel hbB|intro el hel|intro ex|refine Z5 ?_|(refine B0 ?_ ?_;exact ⟨by kernel_rfl,by decide⟩)|refine A9 ?_ ?_|exact A8|refine A7 ?_ ?_|exact A6|(refine A3 ?_ ?_ ?_;kernel_rfl;kernel_rfl)) <;> (try (conv=>whnf)))
   all_goals first
    | (exfalso;omega)
    | exact ⟨k + 1,by omega,by omega,B4 h0 rfl ⟨rfl,rfl,rfl,rfl,trivial⟩ ⟨⟨_,rfl⟩,trivial⟩ rfl rfl rfl⟩
 have hkk:k = l.length:=by omega
 subst hkk
 rw [List.take_length]
 refine U3 (E0 (Fo (i:=0) (F:=C6) (e:=27) (.inl rfl) rfl (by decide) (NB _).symm) (B4 (σ':=⟨[(3, .row 0 0 i),(29, .i l.length),(30, .i l.length)],1,[(0,some (.row 27 1 0 ((G9 l i).map fun r=>[B8 r])))]⟩) h0 rfl ⟨rfl,rfl,rfl,trivial⟩ ⟨⟨_,rfl⟩,trivial⟩ rfl rfl rfl)) ?_
 repeat' ((first|refine A5 ?_|refine S1 ?_|refine Z1 ?_|refine Z2 ?_|(refine And.intro ?_ ?_<;>intro h<;>try first|(exfalso;omega)|exact absurd rfl h)|refine Z3 ?_|refine Z4 ?_|intro el hel hbB|intro el hel|intro ex|refine Z5 ?_|(refine B0 ?_ ?_;exact ⟨by kernel_rfl,by decide⟩)|refine A9 ?_ ?_|exact A8|refine A7 ?_ ?_|exact A6|(refine A3 ?_ ?_ ?_;kernel_rfl;kernel_rfl)) <;> (try (conv=>whnf)))
 all_goals first
  | (exfalso;omega)
  | exact B9 rfl rfl
end Go.Proofs.YtbhegmcbpolemaaDoor
