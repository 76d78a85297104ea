/- Chapter 5: the example of the chapter. -/
import Derived.Test.YtghlhejdfgkjaaaGreatDoorCf1
import Derived.Test.YtghlhejdfgkjaaaGreatDoorD1
namespace Go.Proofs.YtghlhejdfgkjaaaGreatDoor
open Go Go.Av
attribute [local irreducible] AWp AOps AAny MAny DQ retQ retG St.le FCall GCall
set_option linter.unusedVariables false
set_option linter.unnecessarySimpa false
set_option linter.unusedSimpArgs false
set_option maxRecDepth 100000

def ex5 : Sch := ⟨[], [⟨[119, 104, 111], 1, 0, 0, 0, [], false⟩, ⟨[97, 103, 101], 3, 0, 0, 90, [1, 20], false⟩]⟩
abbrev ex5A : AV := .agg [.v (.slice none 0 0), .sl 7 [[.str [119, 104, 111], .i 1, .i 0, .i 0, .i 0, .v (.slice none 0 0), .b false], [.str [97, 103, 101], .i 3, .i 0, .i 0, .i 90, .sl 1 [[.i 1], [.i 20]], .b false]]]
theorem ex5A_nl : NL ex5A (sA ex5) := nl_agg ⟨.nil 2, nl_sl ⟨⟨.refl _, .refl _, .refl _, .refl _, .refl _, .nil 1, .refl _, trivial⟩, ⟨.refl _, .refl _, .refl _, .refl _, .refl _, .refl _, .refl _, trivial⟩, trivial⟩, trivial⟩
theorem ex5_nl {f : Nat} {l : List AV} {r : AV} (h : FCall Tryz.prog f (sA ex5 :: l) r) : FCall Tryz.prog f (ex5A :: l) r := fcall_nl h ⟨ex5A_nl, NLs.refl l⟩
abbrev ex5T : List UInt8 := [110, 111, 116, 32, 97, 103, 101, 32, 102, 114, 111, 109, 32, 50, 48, 32, 116, 111, 32, 51, 57]
def ex5C : Cnd := .mk 7 0 0 0 0 [.mk 3 1 0 20 39 []]
set_option maxHeartbeats 4000000 in
theorem awake5_call : FCall Tryz.prog 16 [] (.b true) := by
  have c1 : FCall Tryz.prog 37 [ex5A, .str ex5T] (.tup [cndA ex5C, .i 0]) := ex5_nl ((cparse_call ex5 ex5T (by decide)).congr (congrArg (fun z : Cnd × Int => AV.tup [cndA z.1, .i z.2]) (show parS ex5 ex5T = (ex5C, 0) by kernel_rfl)))
  have c2 : FCall Tryz.prog 36 [ex5A, cndA ex5C] (.tup [.str ex5T, .i 0]) := ex5_nl ((cprint_call ex5 ex5C).congr (congrArg (fun z : List UInt8 × Int => AV.tup [.str z.1, .i z.2]) (show priS ex5 ex5C = (ex5T, 0) by kernel_rfl)))
  have c3 : FCall Tryz.prog 28 [ex5A, cndA ex5C] (.sl 2 [[.i 1, .i 1]]) := ex5_nl ((cneeds_call ex5 ex5C).congr (congrArg (fun z => AV.sl 2 (List.map pkL z)) (show needS ex5 ex5C = [⟨1, 1⟩] by decide +kernel)))
  have c4 : FCall Tryz.prog 21 [ex5A, cndA ex5C] (.i 0) := ex5_nl ((ccheck_call ex5 ex5C).congr (congrArg AV.i (show cndE ex5 ex5C = 0 by decide +kernel)))
  have c5 : FCall Tryz.prog 24 [ex5A, cndA ex5C, .sl 1 [[.i 1], [.i 25]]] (.i (-1)) := ex5_nl ((eval_call ex5 ex5C [1, 25]).congr (congrArg AV.i (show evaS ex5 ex5C [1, 25] = -1 by decide +kernel)))
  have c6 : FCall Tryz.prog 27 [.sl 2 [[.i 1, .i 1]], .sl 2 [[.i 1, .i 1]]] (.b true) := samePicks_call [⟨1, 1⟩] [⟨1, 1⟩]
  have c7 : FCall Tryz.prog 34 [ex5A, cndA ex5C, .sl 2 [[.i 1, .i 1]], .sl 1 [[.i 40]]] (.i 1) := ex5_nl ((ccoarse_call ex5 ex5C [⟨1, 1⟩] [40]).congr (congrArg AV.i (show coarP ex5 ex5C [⟨1, 1⟩] [40] = 1 by decide +kernel)))
  refine fcall_intro (n := 63) Tryz.func16 (by kernel_rfl) rfl rfl rfl rfl rfl (by intro t T h; cases h) (fun hrd E h0 => ?_)
  clear hrd
  repeat' ((first | refine call_i c1 ?_ | refine call_i c2 ?_ | refine call_i c3 ?_ | refine call_i c4 ?_ | refine call_i c5 ?_ | refine call_i c6 ?_ | refine call_i c7 ?_ |refine aops_go ?_|refine awp_go ?_|refine guard_tt ?_|refine guard_ff ?_|refine guard_tf ?_|refine guard_ft ?_|refine cond_t ?_|refine cond_f ?_|refine Z1 ?_|refine Z2 ?_|refine stp ?_|(refine And.intro ?_ ?_<;>intro h<;>try first|(exfalso;omega)|exact absurd rfl h)|refine Z3 ?_|refine Z4 ?_|intro el hel hbB|intro el hel|intro ex|refine Z5 ?_|(refine free_i ?_ ?_;exact ⟨by kernel_rfl,by decide⟩)|refine allI_c ?_ ?_|exact allI_n|refine allMP_c ?_ ?_|exact allMP_n|(refine many_step ?_ ?_ ?_;kernel_rfl;kernel_rfl)) <;> (try (conv => whnf)))
  all_goals first
    | exact ret_tmp rfl rfl
    | trace_state
end Go.Proofs.YtghlhejdfgkjaaaGreatDoor
