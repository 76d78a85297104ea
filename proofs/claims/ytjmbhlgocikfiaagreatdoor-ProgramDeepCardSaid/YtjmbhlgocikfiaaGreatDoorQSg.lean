/- Chapter 16: the signs of operations. -/
import Derived.Test.YtjmbhlgocikfiaaGreatDoorQXt0
import Derived.Test.YtjmbhlgocikfiaaGreatDoorQAvTy
namespace Go.Proofs.YtjmbhlgocikfiaaGreatDoor
open Go Go.Av Go.RowKit
set_option linter.unusedVariables false
set_option maxRecDepth 100000
theorem sign_at (i : Int) (z : List UInt8) (w : World) (h : (Instr.index 156 (.agg #[.string ⟨#[32, 43, 32]⟩, .string ⟨#[32, 45, 32]⟩, .string ⟨#[32, 42, 32]⟩, .string ⟨#[32, 47, 32]⟩]) (.int .i64 i)).run Tryz.prog w = .ok (.string ⟨z.toArray⟩) w) : (Instr.index 156 (.agg #[.string ⟨#[32, 43, 32]⟩, .string ⟨#[32, 45, 32]⟩, .string ⟨#[32, 42, 32]⟩, .string ⟨#[32, 47, 32]⟩]) (.int .i64 i)).run Tryz.prog w = .ok (.string ⟨z.toArray⟩) w := h
theorem sign16_run (o : Int) (h : 6 ≤ o ∧ o ≤ 9) (w : World) : Calls Tryz.prog 72 #[.int .i64 o] w fun e w' => e = .returned (.string ⟨(sgnX o).toArray⟩) ∧ w' = w := by
  have h2 : o = 6 ∨ o = 7 ∨ o = 8 ∨ o = 9 := by omega
  have r0 := sign_at 0 [32, 43, 32] w (by kernel_rfl)
  have r1 := sign_at 1 [32, 45, 32] w (by kernel_rfl)
  have r2 := sign_at 2 [32, 42, 32] w (by kernel_rfl)
  have r3 := sign_at 3 [32, 47, 32] w (by kernel_rfl)
  rcases h2 with rfl | rfl | rfl | rfl
  all_goals (
    clear h
    go_enter Tryz.func72, Tryz.ntmps72
    go_wp2
    go_ret
    exact ⟨rfl, rfl⟩)
theorem sign16_call (o : Int) (h : 6 ≤ o ∧ o ≤ 9) : FCall Tryz.prog 72 [.i o] (.str (sgnX o)) := by
  refine ⟨⟨Tryz.f72, Tryz.func72, by kernel_rfl, by kernel_rfl⟩, fun X w vs hX htb hl hv => ?_⟩
  match vs, hl with
  | [y], _ =>
    have hv0 := hv 0 _ y rfl rfl
    cases hv0
    refine Calls.mono (sign16_run o h w) ?_
    rintro e w' ⟨rfl, rfl⟩
    exact ⟨_, rfl, .str _, Below.refl _ _⟩
end Go.Proofs.YtjmbhlgocikfiaaGreatDoor
