/- Chapter 3: a builder that goes on after its text was taken; the rows of a deposit that are none. -/
import Derived.Test.YtiphlhoclaogjabGreatDoorQKa4
import Derived.Test.YtiphlhoclaogjabGreatDoorQAvF
set_option linter.unusedVariables false
set_option linter.unnecessarySimpa false
set_option linter.unusedSimpArgs false
namespace Go.Proofs.YtiphlhoclaogjabGreatDoor
open Go Go.Av
attribute [local irreducible] D1 B5 D5 D3 DQ D7 E0 St.le B3 B6
set_option maxRecDepth 100000
set_option maxHeartbeats 2000000 in
theorem UX (t s:List UInt8) (ht:t ≠ []) (hs:t.length + s.length ≤ 140737488355328):B6 Tryz.prog 27 2 [(0,some (n6 0 t.length)),(1,some (.row (K4 + eB) 1 0 (G9 t)))] [.ref 0 0, .str s] 2 [(0,some (n6 1 (t ++ s).length)),(1,some (.row (K4 + eB) 1 1 (G9 (t ++ s))))] (.tup [.i s.length, .v .nilIface]):=by
 refine M6 Tryz.func27 19 fun E h0=>?_
 have h1:=ON (K4 + eB) t.length (G9 t)
 repeat' ((first | refine GY (e:=eB) (i:=1) (l:=t) (s:=s) rfl rfl rfl ht (by decide) hs rfl ?_ |refine A1 ?_|refine S1 ?_|refine Z1 ?_|refine Z2 ?_|(refine And.intro ?_ ?_<;>intro h<;>try first|(exfalso;omega)|exact absurd rfl h)|refine Z3 ?_|refine Z4 ?_|intro el hel hbB|intro el hel|intro ex|refine Z5 ?_|(refine A6 ?_ ?_;exact ⟨by kernel_rfl,by decide⟩)|refine A5 ?_ ?_|exact A4|refine A3 ?_ ?_|exact A2|(refine A0 ?_ ?_ ?_;kernel_rfl;kernel_rfl) | refine nc [0,1] [0,0] h1 rfl rfl rfl ⟨rfl,rfl,trivial⟩ ?_) <;> (try (conv=>whnf)))
 all_goals first
  | exact V1 (rvs:=[.tmp 4, .tmp 5]) (vs:=[_,_]) trivial rfl rfl (A8 h0 rfl ⟨rfl,rfl,trivial⟩ ⟨congrArg (fun z=>C0.bx bB [.ref 0 0, .row 1 1 z]) (by simp),⟨_,by rw [OM]⟩,trivial⟩ rfl rfl rfl) rfl
set_option maxHeartbeats 2000000 in
theorem Wt (s:List UInt8) (h1:s ≠ []):B6 Tryz.prog 32 2 [(0,some (n6 0 s.length)),(1,some (.row eB 1 0 (G9 s)))] [.ref 0 0] 2 [(0,some (n6 0 s.length)),(1,some (.row (K4 + eB) 1 0 (G9 s)))] (.str s):=by
 have h2:G9 s ≠ []:=fun h=>h1 (List.map_eq_nil_iff.1 h)
 refine M6 Tryz.func32 14 fun E h0=>?_
 repeat' ((first | (refine G1 1 ?_;refine Al (id:=1) ⟨[(2, .str s)],2,[(0,some (n6 0 s.length)),(1,some (.row (K4 + eB) 1 0 (G9 s)))]⟩ ?_ ?_) |refine A1 ?_|refine S1 ?_|refine Z1 ?_|refine Z2 ?_|(refine And.intro ?_ ?_<;>intro h<;>try first|(exfalso;omega)|exact absurd rfl h)|refine Z3 ?_|refine Z4 ?_|intro el hel hbB|intro el hel|intro ex|refine Z5 ?_|(refine A6 ?_ ?_;exact ⟨by kernel_rfl,by decide⟩)|refine A5 ?_ ?_|exact A4|refine A3 ?_ ?_|exact A2|(refine A0 ?_ ?_ ?_;kernel_rfl;kernel_rfl) | refine Eo rfl rfl h2 rfl ?_ | refine Jv (e:=eB) (F:=0) rfl rfl rfl (.inl rfl) rfl h1 (by decide) (by kernel_rfl) (by kernel_rfl) rfl ?_) <;> (try (conv=>whnf)))
 all_goals first
  | exact A8 h0 rfl ⟨rfl,trivial⟩ ⟨rfl,⟨_,rfl⟩,trivial⟩ rfl rfl rfl
  | exact C9 (A8 h0 rfl ⟨rfl,trivial⟩ ⟨rfl,⟨_,rfl⟩,trivial⟩ rfl rfl rfl)
set_option maxHeartbeats 2000000 in
theorem UY (s:List UInt8) (h1:s ≠ []):B6 Tryz.prog 32 2 [(0,some (n6 0 s.length)),(1,some (.row (K4 + eB) 1 0 (G9 s)))] [.ref 0 0] 2 [(0,some (n6 0 s.length)),(1,some (.row (K4 + eB) 1 0 (G9 s)))] (.str s):=by
 have h2:G9 s ≠ []:=fun h=>h1 (List.map_eq_nil_iff.1 h)
 refine M6 Tryz.func32 14 fun E h0=>?_
 repeat' ((first | (refine G1 1 ?_;refine Al (id:=1) ⟨[(2, .str s)],2,[(0,some (n6 0 s.length)),(1,some (.row (K4 + eB) 1 0 (G9 s)))]⟩ ?_ ?_) |refine A1 ?_|refine S1 ?_|refine Z1 ?_|refine Z2 ?_|(refine And.intro ?_ ?_<;>intro h<;>try first|(exfalso;omega)|exact absurd rfl h)|refine Z3 ?_|refine Z4 ?_|intro el hel hbB|intro el hel|intro ex|refine Z5 ?_|(refine A6 ?_ ?_;exact ⟨by kernel_rfl,by decide⟩)|refine A5 ?_ ?_|exact A4|refine A3 ?_ ?_|exact A2|(refine A0 ?_ ?_ ?_;kernel_rfl;kernel_rfl) | refine Eo rfl rfl h2 rfl ?_ | refine Jv (e:=eB) (F:=K4) rfl rfl rfl (.inr rfl) rfl h1 (by decide) (by kernel_rfl) (by kernel_rfl) rfl ?_) <;> (try (conv=>whnf)))
 all_goals first
  | exact A8 h0 rfl ⟨rfl,trivial⟩ ⟨rfl,⟨_,rfl⟩,trivial⟩ rfl rfl rfl
  | exact C9 (A8 h0 rfl ⟨rfl,trivial⟩ ⟨rfl,⟨_,rfl⟩,trivial⟩ rfl rfl rfl)
set_option maxHeartbeats 2000000 in
theorem Wu (l:List (List Int)) (f:Nat) (caps:List AV) (p:(List Int) → Bool) (hf:∀ x ∈ l,B3 Tryz.prog f ((fun x=>.sl 1 (x.map wA)) x :: caps) (.b (p x))):B3 Tryz.prog 58 [.sl 1 (l.map D8), .fn f caps] (.i (H5 p l 0)):=by
 refine F3 Tryz.func58 19 fun hrd E h0=>?_
 have hlen:l.length ≤ 9223372036854775807:=by have:=(hrd (.sl 1 (l.map D8)) (by simp)).sl;simpa using this
 repeat' ((first|refine A1 ?_|refine S1 ?_|refine Z1 ?_|refine Z2 ?_|(refine And.intro ?_ ?_<;>intro h<;>try first|(exfalso;omega)|exact absurd rfl h)|refine Z3 ?_|refine Z4 ?_|intro el hel hbB|intro el hel|intro ex|refine Z5 ?_|(refine A6 ?_ ?_;exact ⟨by kernel_rfl,by decide⟩)|refine A5 ?_ ?_|exact A4|refine A3 ?_ ?_|exact A2|(refine A0 ?_ ?_ ?_;kernel_rfl;kernel_rfl)) <;> (try (conv=>whnf)))
 refine C5 (ι:=Nat) (fun k=>⟨[(0, .sl 1 (l.map D8)),(1, .fn f caps),(7, .i l.length),(8, .i k)],0,[]⟩) (fun k=>k ≤ l.length ∧ H5 p l 0 = H5 p (l.drop k) k) (fun k=>l.length - k) 0 ⟨Nat.zero_le _,rfl⟩ (A8 h0 rfl ⟨rfl,rfl,rfl,rfl,trivial⟩ trivial rfl rfl rfl) (fun k hI=>?_)
 obtain ⟨hk,hI⟩:=hI
 repeat' ((first | refine A9 (hf _ (List.mem_of_getElem? hel)) ?_ |refine A1 ?_|refine S1 ?_|refine Z1 ?_|refine Z2 ?_|(refine And.intro ?_ ?_<;>intro h<;>try first|(exfalso;omega)|exact absurd rfl h)|refine Z3 ?_|refine Z4 ?_|intro el hel hbB|intro el hel|intro ex|refine Z5 ?_|(refine A6 ?_ ?_;exact ⟨by kernel_rfl,by decide⟩)|refine A5 ?_ ?_|exact A4|refine A3 ?_ ?_|exact A2|(refine A0 ?_ ?_ ?_;kernel_rfl;kernel_rfl)) <;> (try (conv=>whnf)))
 all_goals first
  | exact ⟨k + 1,⟨by omega,by rw [hI,V8 hel,H5,if_neg (by simp [h])];rfl⟩,by omega,A8 h0 rfl ⟨rfl,rfl,rfl,rfl,trivial⟩ trivial rfl rfl rfl⟩
  | exact B2 rfl (congrArg AV.i (by rw [hI,V8 hel,H5,if_pos (by simp [h])]))
  | exact B2 rfl (congrArg AV.i (by rw [hI,show k = l.length by omega,List.drop_length];rfl))
set_option maxHeartbeats 2000000 in
theorem Wv (l:List (List Int)) (f:Nat) (caps:List AV) (p:(List Int) → Bool) (hf:∀ x ∈ l,B3 Tryz.prog f ((fun x=>.sl 1 (x.map wA)) x :: caps) (.b (p x))):B3 Tryz.prog 24 [.sl 1 (l.map D8), .fn f caps] (.b (l.any p)):=by
 refine F3 Tryz.func24 9 fun hrd E h0=>?_
 have hidx:=Wu l f caps p hf
 repeat' ((first | refine A9 hidx ?_ |refine A1 ?_|refine S1 ?_|refine Z1 ?_|refine Z2 ?_|(refine And.intro ?_ ?_<;>intro h<;>try first|(exfalso;omega)|exact absurd rfl h)|refine Z3 ?_|refine Z4 ?_|intro el hel hbB|intro el hel|intro ex|refine Z5 ?_|(refine A6 ?_ ?_;exact ⟨by kernel_rfl,by decide⟩)|refine A5 ?_ ?_|exact A4|refine A3 ?_ ?_|exact A2|(refine A0 ?_ ?_ ?_;kernel_rfl;kernel_rfl)) <;> (try (conv=>whnf)))
 all_goals first
  | exact B2 rfl (congrArg AV.b (AK p l 0 (by omega)))
set_option maxHeartbeats 2000000 in
theorem NX (s:B8) (hr:F8 s = 0) (row:List Int):B3 Tryz.prog 25 [.sl 1 (row.map wA), .iptr (sL s)] (.b (!I4 s row)):=by
 have h1:=Lt s row hr
 refine F3 Tryz.func25 8 fun hrd E h0=>?_
 clear hrd
 repeat' ((first | refine A9 h1 ?_ |refine A1 ?_|refine S1 ?_|refine Z1 ?_|refine Z2 ?_|(refine And.intro ?_ ?_<;>intro h<;>try first|(exfalso;omega)|exact absurd rfl h)|refine Z3 ?_|refine Z4 ?_|intro el hel hbB|intro el hel|intro ex|refine Z5 ?_|(refine A6 ?_ ?_;exact ⟨by kernel_rfl,by decide⟩)|refine A5 ?_ ?_|exact A4|refine A3 ?_ ?_|exact A2|(refine A0 ?_ ?_ ?_;kernel_rfl;kernel_rfl)) <;> (try (conv=>whnf)))
 all_goals first
  | exact B2 rfl rfl
end Go.Proofs.YtiphlhoclaogjabGreatDoor
