/- strings.Builder's functions as contracts of the walk. -/
import Derived.Test.YtjmbhlgocikfiaaGreatDoorQSb0
namespace Go.Proofs.YtjmbhlgocikfiaaGreatDoor
open Go Go.Av
attribute [local irreducible] AWp AOps AAny MAny DQ retQ retG St.le FCall GCall
set_option linter.unusedVariables false
set_option linter.unnecessarySimpa false
set_option linter.unusedSimpArgs false
set_option maxRecDepth 100000
set_option maxHeartbeats 2000000 in
theorem ws_fresh (s : List UInt8) (hs : s.length ≤ 140737488355328) : GCall Tryz.prog 34 1 [(0, some bld0)] [.ref 0 0, .str s] 2 [(0, some (bld1 1 s.length)), (1, some (.row eB 1 1 (byt s)))] (.tup [.i s.length, .v .nilIface]) := by
  refine gci Tryz.func34 19 fun E h0 => ?_
  repeat' ((first|refine aops_go ?_|refine S1 ?_|refine Z1 ?_|refine Z2 ?_|(refine And.intro ?_ ?_<;>intro h<;>try first|(exfalso;omega)|exact absurd rfl h)|refine Z3 ?_|refine Z4 ?_|intro el hel hbB|intro el hel|intro ex|refine Z5 ?_|(refine free_i ?_ ?_;exact ⟨by kernel_rfl,by decide⟩)|refine allI_c ?_ ?_|exact allI_n|refine allMP_c ?_ ?_|exact allMP_n|(refine many_step ?_ ?_ ?_;kernel_rfl;kernel_rfl) | refine nc [0] [0] cc_fresh rfl rfl rfl ⟨rfl, trivial⟩ ?_) <;> (try (conv => whnf)))
  all_goals first
    | exact retg_vs (rvs := [.tmp 4, .tmp 5]) (vs := [_, _]) trivial rfl rfl (le_of h0 rfl ⟨rfl, rfl, trivial⟩ ⟨congrArg (fun z => Blk.bx bB [.ref 0 0, .row 1 1 z]) (by simp), ⟨_, rfl⟩, trivial⟩ rfl rfl rfl) rfl
set_option maxHeartbeats 2000000 in
theorem ws_used (t s : List UInt8) (hs : t.length + s.length ≤ 140737488355328) : GCall Tryz.prog 34 2 [(0, some (bld1 0 t.length)), (1, some (.row eB 1 0 (byt t)))] [.ref 0 0, .str s] 2 [(0, some (bld1 1 (t ++ s).length)), (1, some (.row eB 1 1 (byt (t ++ s))))] (.tup [.i s.length, .v .nilIface]) := by
  refine gci Tryz.func34 19 fun E h0 => ?_
  have h1 := cc_used eB t.length (byt t)
  repeat' ((first|refine aops_go ?_|refine S1 ?_|refine Z1 ?_|refine Z2 ?_|(refine And.intro ?_ ?_<;>intro h<;>try first|(exfalso;omega)|exact absurd rfl h)|refine Z3 ?_|refine Z4 ?_|intro el hel hbB|intro el hel|intro ex|refine Z5 ?_|(refine free_i ?_ ?_;exact ⟨by kernel_rfl,by decide⟩)|refine allI_c ?_ ?_|exact allI_n|refine allMP_c ?_ ?_|exact allMP_n|(refine many_step ?_ ?_ ?_;kernel_rfl;kernel_rfl) | refine nc [0, 1] [0, 0] h1 rfl rfl rfl ⟨rfl, rfl, trivial⟩ ?_) <;> (try (conv => whnf)))
  all_goals first
    | exact retg_vs (rvs := [.tmp 4, .tmp 5]) (vs := [_, _]) trivial rfl rfl (le_of h0 rfl ⟨rfl, rfl, trivial⟩ ⟨congrArg (fun z => Blk.bx bB [.ref 0 0, .row 1 1 z]) (by simp), ⟨_, by rw [byt_app]⟩, trivial⟩ rfl rfl rfl) rfl
theorem bl_len (e len : Nat) (l : List (List AV)) : GCall Tryz.prog 36 2 [(0, some (bld1 0 len)), (1, some (.row e 1 0 l))] [.ref 0 0] 2 [(0, some (bld1 0 len)), (1, some (.row e 1 0 l))] (.i len) := by
  refine gci Tryz.func36 8 fun E h0 => ?_
  repeat' ((first|refine aops_go ?_|refine S1 ?_|refine Z1 ?_|refine Z2 ?_|(refine And.intro ?_ ?_<;>intro h<;>try first|(exfalso;omega)|exact absurd rfl h)|refine Z3 ?_|refine Z4 ?_|intro el hel hbB|intro el hel|intro ex|refine Z5 ?_|(refine free_i ?_ ?_;exact ⟨by kernel_rfl,by decide⟩)|refine allI_c ?_ ?_|exact allI_n|refine allMP_c ?_ ?_|exact allMP_n|(refine many_step ?_ ?_ ?_;kernel_rfl;kernel_rfl)) <;> (try (conv => whnf)))
  all_goals first
    | exact retg_tmp (le_of h0 rfl ⟨rfl, trivial⟩ ⟨rfl, ⟨_, rfl⟩, trivial⟩ rfl rfl rfl)
theorem bl_len0 : GCall Tryz.prog 36 1 [(0, some bld0)] [.ref 0 0] 1 [(0, some bld0)] (.i 0) := by
  refine gci Tryz.func36 8 fun E h0 => ?_
  repeat' ((first|refine aops_go ?_|refine S1 ?_|refine Z1 ?_|refine Z2 ?_|(refine And.intro ?_ ?_<;>intro h<;>try first|(exfalso;omega)|exact absurd rfl h)|refine Z3 ?_|refine Z4 ?_|intro el hel hbB|intro el hel|intro ex|refine Z5 ?_|(refine free_i ?_ ?_;exact ⟨by kernel_rfl,by decide⟩)|refine allI_c ?_ ?_|exact allI_n|refine allMP_c ?_ ?_|exact allMP_n|(refine many_step ?_ ?_ ?_;kernel_rfl;kernel_rfl)) <;> (try (conv => whnf)))
  all_goals first
    | exact retg_tmp (le_of h0 rfl ⟨rfl, trivial⟩ ⟨rfl, trivial⟩ rfl rfl rfl)
theorem bl_str (s : List UInt8) (h1 : s ≠ []) : GCall Tryz.prog 37 2 [(0, some (bld1 0 s.length)), (1, some (.row eB 1 0 (byt s)))] [.ref 0 0] 2 [(0, none), (1, none)] (.str s) := by
  have h2 : byt s ≠ [] := fun h => h1 (List.map_eq_nil_iff.1 h)
  refine gci Tryz.func37 14 fun E h0 => ?_
  repeat' ((first | (refine draw_id 1 ?_; refine draw_e (id := 1) ⟨[(2, .str s)], 2, []⟩ ?_ ?_) |refine aops_go ?_|refine S1 ?_|refine Z1 ?_|refine Z2 ?_|(refine And.intro ?_ ?_<;>intro h<;>try first|(exfalso;omega)|exact absurd rfl h)|refine Z3 ?_|refine Z4 ?_|intro el hel hbB|intro el hel|intro ex|refine Z5 ?_|(refine free_i ?_ ?_;exact ⟨by kernel_rfl,by decide⟩)|refine allI_c ?_ ?_|exact allI_n|refine allMP_c ?_ ?_|exact allMP_n|(refine many_step ?_ ?_ ?_;kernel_rfl;kernel_rfl) | refine ncall_usd rfl rfl h2 rfl ?_ | refine ncall_us rfl rfl rfl rfl h1 (by decide) (by kernel_rfl) (by kernel_rfl) rfl ?_) <;> (try (conv => whnf)))
  all_goals first
    | exact le_of h0 rfl ⟨rfl, trivial⟩ trivial rfl rfl rfl
    | exact retg_tmp (le_of h0 rfl ⟨rfl, trivial⟩ trivial rfl rfl rfl)
end Go.Proofs.YtjmbhlgocikfiaaGreatDoor
