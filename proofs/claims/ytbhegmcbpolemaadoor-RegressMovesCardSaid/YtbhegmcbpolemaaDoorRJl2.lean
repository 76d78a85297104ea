/- The program's determinant. -/
import Derived.Test.YtbhegmcbpolemaaDoorRJl1
set_option linter.unusedVariables false
set_option linter.unnecessarySimpa false
set_option linter.unusedSimpArgs false
namespace Go.Proofs.YtbhegmcbpolemaaDoor
open Go Go.Av
attribute [local irreducible] E2 B3 F6 E9 DQ G2 H3 St.le B4 D7
set_option maxRecDepth 100000
instance:I2 Tryd.prog 95 [.nilFunc]:=.of (by kernel_rfl)
set_option maxHeartbeats 8000000 in
theorem Nh (M:List (List Int)) (hr:∀ r ∈ M,r.length = M.length) (hn:M.length ≤ 1000) (hx:∀ r ∈ M,∀ x ∈ r, -9223372036854775808 ≤ x ∧ x ≤ 9223372036854775807):B4 Tryd.prog 48 [D1 M] (I5 (F5 M)):=by
 have hv:=KG M M.length rfl hr hn hx M.length 0 (List.replicate M.length false) 0 1 (by omega) (by simp) (by rw [Ff];simp)
 rw [Ff,NP,Int.one_mul,Int.zero_add] at hv
 have h1:=I4 1 (by decide) (by decide)
 have hz:(List.replicate M.length false).map P5 = List.replicate M.length [.b false]:=List.map_replicate
 rw [hz] at hv
 unfold F5
 generalize C3 M.length (P1 M) = D at *
 unfold Ev at hv
 refine E4 Tryd.func48 14 (fun hrd E h0=>?_) (hcells:=by intro t T h;cases h;exact ⟨2,inferInstance,fun l h=>by cases h;rfl⟩)
 clear hrd
 repeat' ((first | refine A5 h1 ?_ | (refine ⟨Ie [2,4,3,5] [0,0,0,0] hv rfl rfl rfl rfl rfl rfl ⟨rfl,rfl,rfl,rfl,trivial⟩ rfl rfl rfl rfl rfl ?_⟩) | (refine m6 (id:=5) ⟨[(2, .ref 1 0),(3, .ref 2 0)],6,[(1,some (.box [uA 0,uA 0])),(2,some (.box (G0 D)))]⟩ ?_ ?_) |refine A6 ?_|refine S1 ?_|refine Z1 ?_|refine Z2 ?_|(refine And.intro ?_ ?_<;>intro h<;>try first|(exfalso;omega)|exact absurd rfl h)|refine Z3 ?_|refine Z4 ?_|intro el hel hbB|intro el hel|intro ex|refine Z5 ?_|(refine B2 ?_ ?_;exact ⟨by kernel_rfl,by decide⟩)|refine B0 ?_ ?_|exact A9|refine A8 ?_ ?_|exact A7|(refine A3 ?_ ?_ ?_;kernel_rfl;kernel_rfl) | (refine Kq 0 ?_;refine A6 ?_;(conv=>whnf);refine Mt rfl rfl ?_)) <;> (try (conv=>whnf)))
 all_goals first
  | (exfalso;omega)
  | exact B5 h0 rfl ⟨rfl,rfl,trivial⟩ ⟨rfl,rfl,trivial⟩ rfl rfl rfl
  | exact K8 rfl rfl rfl
end Go.Proofs.YtbhegmcbpolemaaDoor
