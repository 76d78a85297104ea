/- Chapter 16: the example of the chapter. -/
import Derived.Test.YtjmbhlgocikfiaaGreatDoorQPg7
import Derived.Test.YtjmbhlgocikfiaaGreatDoorQPt4
import Derived.Test.YtjmbhlgocikfiaaGreatDoorQB12
namespace Go.Proofs.YtjmbhlgocikfiaaGreatDoor
open Go Go.Av
attribute [local irreducible] AWp AOps AAny MAny DQ retQ retG St.le FCall GCall
set_option linter.unusedVariables false
set_option linter.unnecessarySimpa false
set_option linter.unusedSimpArgs false
set_option maxRecDepth 100000
def ex16 : Sch := ⟨[], [⟨[119, 104, 111], 1, 0, 0, 0, [], false⟩, ⟨[109], 3, 0, 0, 9, [1], false⟩]⟩
abbrev ex16A : AV := .agg [.v (.slice none 0 0), .sl 7 [[.str [119, 104, 111], .i 1, .i 0, .i 0, .i 0, .v (.slice none 0 0), .b false], [.str [109], .i 3, .i 0, .i 0, .i 9, .sl 1 [[.i 1]], .b false]]]
theorem ex16A_nl : NL ex16A (sA ex16) := nl_agg ⟨.nil 2, nl_sl ⟨⟨.refl _, .refl _, .refl _, .refl _, .refl _, .nil 1, .refl _, trivial⟩, ⟨.refl _, .refl _, .refl _, .refl _, .refl _, .refl _, .refl _, trivial⟩, trivial⟩, trivial⟩
theorem ex16_nl {f : Nat} {l : List AV} {r : AV} (h : FCall Tryz.prog f (sA ex16 :: l) r) : FCall Tryz.prog f (ex16A :: l) r := fcall_nl h ⟨ex16A_nl, NLs.refl l⟩
abbrev ex16T : List UInt8 := [111, 117, 116, 32, 110, 32, 61, 32, 40, 99, 111, 117, 110, 116, 40, 97, 108, 108, 41, 32, 45, 32, 49, 41, 10]
abbrev ex16U : List UInt8 := [108, 101, 116, 32, 97, 32, 61, 32, 98, 10]
def ex16X : Stm := ⟨[110], true, .mk 7 0 [] 0 [] [] zX zX [.mk 3 0 [] 0 [] [] (.mk 1 0 0 0 0 []) zX [], .mk 1 1 [] 0 [] [] zX zX []]⟩
theorem ex16_p1 : parP ex16 ex16T = ([ex16X], 0, 0) := by kernel_rfl
theorem ex16_p2 : parP ex16 ex16U = ([], 1, 24) := by kernel_rfl
theorem ex16_p3 : priP ex16 [ex16X] = (ex16T, 0) := by kernel_rfl
theorem ex16_p4 : proS ex16 [ex16X] = (1, 0) := by kernel_rfl
set_option maxHeartbeats 4000000 in
theorem awake8_call : FCall Tryz.prog 9 [] (.b true) := by
  have c1 : FCall Tryz.prog 18 [ex16A, .str ex16T] (.tup [.sl 21 [stmL ex16X], .i 0, .i 0]) := ex16_nl ((pParse_call ex16 ex16T (by decide)).congr (congrArg (fun z : List Stm × Int × Int => AV.tup [.sl 21 (z.1.map stmL), .i z.2.1, .i z.2.2]) ex16_p1))
  have c2 : FCall Tryz.prog 17 [ex16A, .sl 21 [stmL ex16X]] (.tup [.str ex16T, .i 0]) := ex16_nl ((pPrint_call ex16 [ex16X]).congr (congrArg (fun z : List UInt8 × Int => AV.tup [.str z.1, .i z.2]) ex16_p3))
  have c3 : FCall Tryz.prog 14 [ex16A, .sl 21 [stmL ex16X]] (.tup [.i 1, .i 0]) := ex16_nl ((pCheck_call ex16 [ex16X]).congr (congrArg (fun z : Int × Int => AV.tup [.i z.1, .i z.2]) ex16_p4))
  have c4 : FCall Tryz.prog 18 [ex16A, .str ex16U] (.tup [.sl 21 [], .i 1, .i 24]) := ex16_nl ((pParse_call ex16 ex16U (by decide)).congr (congrArg (fun z : List Stm × Int × Int => AV.tup [.sl 21 (z.1.map stmL), .i z.2.1, .i z.2.2]) ex16_p2))
  have hx : [stmL ex16X][(0 : Int).toNat]? = some (stmL ex16X) := rfl
  refine fci Tryz.func9 82 fun hrd E h0 => ?_
  clear hrd
  repeat' ((first | refine call_i c1 ?_ | refine call_i c2 ?_ | refine call_i c3 ?_ | refine call_i c4 ?_ | (refine each_known (x := stmL ex16X) hx (by omega) ?_) |refine aops_go ?_|refine S1 ?_|refine Z1 ?_|refine Z2 ?_|(refine And.intro ?_ ?_<;>intro h<;>try first|(exfalso;omega)|exact absurd rfl h)|refine Z3 ?_|refine Z4 ?_|intro el hel hbB|intro el hel|intro ex|refine Z5 ?_|(refine free_i ?_ ?_;exact ⟨by kernel_rfl,by decide⟩)|refine allI_c ?_ ?_|exact allI_n|refine allMP_c ?_ ?_|exact allMP_n|(refine many_step ?_ ?_ ?_;kernel_rfl;kernel_rfl)) <;> (try (conv => whnf)))
  all_goals first
    | exact ret_tmp rfl rfl
end Go.Proofs.YtjmbhlgocikfiaaGreatDoor
