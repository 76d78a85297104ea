/- The program's determinant. -/
import Derived.Test.YtbhegmcbpolemaaDoorSJl1
set_option linter.unusedVariables false
set_option linter.unnecessarySimpa false
set_option linter.unusedSimpArgs false
namespace Go.Proofs.YtbhegmcbpolemaaDoor
open Go Go.Av
attribute [local irreducible] E3 B5 F2 F0 DQ F5 G8 St.le B6 D3
set_option maxRecDepth 100000
instance:H7 Tryd.prog 95 [.nilFunc]:=.of (by kernel_rfl)
set_option maxHeartbeats 8000000 in
theorem Nh (M:List (List Int)) (hr:∀ r ∈ M,r.length = M.length) (hn:M.length ≤ 1000) (hx:∀ r ∈ M,∀ x ∈ r, -9223372036854775808 ≤ x ∧ x ≤ 9223372036854775807):B6 Tryd.prog 48 [C3 M] (H9 (F8 M)):=by
 have hv:=KD M M.length rfl hr hn hx M.length 0 (List.replicate M.length false) 0 1 (by omega) (by simp) (by rw [Fv];simp)
 rw [Fv,NP,Int.one_mul,Int.zero_add] at hv
 have h1:=H8 1 (by decide) (by decide)
 have hz:(List.replicate M.length false).map P2 = List.replicate M.length [.b false]:=List.map_replicate
 rw [hz] at hv
 unfold F8
 generalize C9 M.length (P6 M) = D at *
 unfold FJ at hv
 refine E1 Tryd.func48 14 (fun hrd E h0=>?_) (hcells:=by intro t T h;cases h;exact ⟨2,inferInstance,fun l h=>by cases h;rfl⟩)
 clear hrd
 repeat' ((first | refine A4 h1 ?_ | (refine ⟨Iq [2,4,3,5] [0,0,0,0] hv rfl rfl rfl rfl rfl rfl ⟨rfl,rfl,rfl,rfl,trivial⟩ rfl rfl rfl rfl rfl ?_⟩) | (refine Af (id:=5) ⟨[(2, .ref 1 0),(3, .ref 2 0)],6,[(1,some (.box [uA 0,uA 0])),(2,some (.box (G0 D)))]⟩ ?_ ?_) |refine A6 ?_|refine S1 ?_|refine Z1 ?_|refine Z2 ?_|(refine And.intro ?_ ?_<;>intro h<;>try first|(exfalso;omega)|exact absurd rfl h)|refine Z3 ?_|refine Z4 ?_|intro el hel hbB|intro el hel|intro ex|refine Z5 ?_|(refine B2 ?_ ?_;exact ⟨by kernel_rfl,by decide⟩)|refine B0 ?_ ?_|exact A9|refine A8 ?_ ?_|exact A7|(refine A3 ?_ ?_ ?_;kernel_rfl;kernel_rfl) | (refine Kr 0 ?_;refine A6 ?_;(conv=>whnf);refine Mr rfl rfl ?_)) <;> (try (conv=>whnf)))
 all_goals first
  | (exfalso;omega)
  | exact B3 h0 rfl ⟨rfl,rfl,trivial⟩ ⟨rfl,rfl,trivial⟩ rfl rfl rfl
  | exact K5 rfl rfl rfl
end Go.Proofs.YtbhegmcbpolemaaDoor
