/- 'CodesWords' holds: for every input that the row lets in, the call returns true, and each argument reads behind it as it did. -/
import Derived.Test.YtmmogjdkoghjoaaWo1
import Derived.Test.YtmmogjdkoghjoaaRows
import Derived.Deep.DeepHandedRow
import Derived.LaidLaws
namespace Go.Proofs.Ytmmogjdkoghjoaa.lawCodesWords
open Go Go.RowKit Go.Av
set_option maxRecDepth 100000
set_option linter.unusedVariables false
theorem own : ownKnob Try.prog.godebug = none := by kernel_rfl
theorem laidOut : laidOutB Try.prog = true := by kernel_rfl
theorem readable : (Try.f3.params.toList.all fun t => Try.prog.readableRec t && decide (t < Try.prog.types.size)) = true := by kernel_rfl
theorem contract (H : Type) (enc : TypeId × Value → H) (W : World) (base : Nat) (args : Array Value) (ds gs : List (DataW H)) (before : List MemPlace)
    (hval : ∀ (j : Nat) t v, Try.f3.params[j]? = some t → args[j]? = some v → Value.okWide Try.prog W .any base t v)
    (hW : DataW.Whole enc Try.prog Try.f3.params.toList Rows.codesWordsSpec.vars false W args.toList ds gs before) :
    Calls Try.prog 3 args W fun e W' => ∃ v, e = .returned v ∧ Rows.codesWordsSpec.post enc Try.prog Try.f3 false true false false W args v W' :=
  law_post (f := 3) (fn := Try.f3) (s := Rows.codesWordsSpec) (tb := 4) laidOut readable Try.underlying4 rfl rfl (fun ds h => by
    match ds, h with
    | [d1, d2, d3], _ => rfl) codesWords_all hval hW
theorem laid_met (os : Os) : laidMet Try.prog Rows.codesWordsRow.laid ((World.holding Try.prog os ⟨#[], #[], []⟩).forCall (fun _ _ => 0) ⟨#[], #[Value.int .u8 0, Value.int .u8 0, Value.int .u8 0], []⟩).memory :=
  laidMet_of_run' 8 (by kernel_rfl) (by kernel_rfl)
theorem reads (os : Os) {H : Type} (enc : TypeId × Value → H) : ∃ places, DataW.whole enc Try.prog ((World.holding Try.prog os ⟨#[], #[], []⟩).forCall (fun _ _ => 0) ⟨#[], #[Value.int .u8 0, Value.int .u8 0, Value.int .u8 0], []⟩).memory Try.f3.params.toList Rows.codesWordsSpec.vars false (#[Value.int .u8 0, Value.int .u8 0, Value.int .u8 0] : Array Value).toList 12 = some ([.lit (.int .u8 0), .lit (.int .u8 0), .lit (.int .u8 0)], [], places) :=
  ⟨[], by kernel_rfl⟩
theorem lifted (os : Os) (started : os.Started) (H : Type) (enc : TypeId × Value → H) (F : Stop.Interp) :
    ReturnsInHanded {} Try.checked os 3 .any ((OpenSpec.ofChange Rows.codesWordsSpec).preRow enc Try.prog Try.f3 Rows.codesWordsRow.domain false Rows.codesWordsRow.laid) (((OpenSpec.ofChange Rows.codesWordsSpec).at F).post enc Try.prog Try.f3 false true false false) := by
  obtain ⟨places, hx⟩ := reads os enc
  refine returnsInHanded_of_row (C := Try.checked) (s := OpenSpec.ofChange Rows.codesWordsSpec) own started (by kernel_rfl) Try.func3
    (witness_row_at (enc := enc) (C := Try.checked) false (World.holding Try.prog os ⟨#[], #[], []⟩) #[Value.int .u8 0, Value.int .u8 0, Value.int .u8 0] rfl (by kernel_rfl) (by kernel_rfl) (by kernel_rfl)
      (OpenSpec.preRow_of_cond 12 hx (by kernel_rfl) (fun k hk => by cases hk) (by kernel_rfl) (laid_met os))) ?_
  intro W base args ds gs before hval hW _ _ _ _ _ _
  exact contract H enc W base args ds gs before hval hW
theorem holds : Rows.CodesWordsSaid :=
  OpenClaim.holds_of_cond 3 Try.f3 rfl rfl rfl rfl rfl rfl rfl ⟨rfl, rfl, rfl, rfl, rfl⟩ rfl rfl rfl rfl rfl (by kernel_rfl) Try.func3 (by kernel_rfl)
    (of_decide_eq_true (by kernel_rfl)) (by unfold Func.isWrapper; first | (rw [if_pos (by decide +kernel)]; kernel_rfl) | (rw [if_neg (by decide +kernel)]; exact ⟨rfl, rfl⟩))
    (fun os started H enc _ F => by rw [OpenClaim.pre_eq_preRow]; exact lifted os started H enc F)
end Go.Proofs.Ytmmogjdkoghjoaa.lawCodesWords
