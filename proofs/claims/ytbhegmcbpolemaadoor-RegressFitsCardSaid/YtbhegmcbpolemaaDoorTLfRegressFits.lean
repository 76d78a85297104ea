/- 'RegressFits': the closed facts that its row asks for, by the kernel. Printed by law.py. -/
import Derived.Test.YtbhegmcbpolemaaDoorRows
import Derived.Test.YtbhegmcbpolemaaDoorTLw
import Derived.Test.YtbhegmcbpolemaaDoorCards
import Derived.Deep.DeepHandedRow
import Derived.LaidLaws
import Derived.JoinedCond
set_option linter.unusedVariables false
namespace Go.Proofs.YtbhegmcbpolemaaDoor.lawRegressFits
open Go Go.RowKit Go.Av
set_option maxRecDepth 100000
theorem own:ownKnob Tryd.prog.godebug = none:=by kernel_rfl
theorem laidOut:laidOutB Tryd.prog = true:=by kernel_rfl
theorem readable:(Tryd.f4.params.toList.all fun t=>Tryd.prog.readableRec t && decide (t < Tryd.prog.types.size)) = true:=by kernel_rfl
theorem tabs_ok (W:World) (h:laidMetH Tryd.prog Rows.regressFitsRow.laid W):N8 AR W:=by
 rw [Go.MakeChecks.laidMetH_plain _ _ _ (by kernel_rfl)] at h
 have t0 := NZ (t := 104) (e := 5) (n := 64) (k := .u8) (zs := [0,1,56,2,57,49,28,3,61,58,42,50,38,29,17,4,62,47,59,36,45,43,51,22,53,39,33,30,24,18,12,5,63,55,48,27,60,41,37,16,46,35,44,21,52,32,23,11,54,26,40,15,34,20,31,10,25,14,19,9,13,8,7,6]) (by kernel_rfl : Tryd.prog.globalNamed "math/bits.deBruijn64tab" = some 0) (by kernel_rfl) (by kernel_rfl) (by kernel_rfl) (by kernel_rfl) (by kernel_rfl) h
 exact Na ⟨t0,trivial⟩ trivial trivial
/-- A world for the witness: the settled one,the tables holding what their initialisers lay. -/
noncomputable def laidWorld (os:Os):World :=
 { World.holding Tryd.prog os ⟨#[], #[],[]⟩ with heap:=((World.holding Tryd.prog os ⟨#[], #[],[]⟩).heap.modify 0 (fun o=>match o with | .cells _ t frozen=>.cells #[.int .u8 0, .int .u8 1, .int .u8 56, .int .u8 2, .int .u8 57, .int .u8 49, .int .u8 28, .int .u8 3, .int .u8 61, .int .u8 58, .int .u8 42, .int .u8 50, .int .u8 38, .int .u8 29, .int .u8 17, .int .u8 4, .int .u8 62, .int .u8 47, .int .u8 59, .int .u8 36, .int .u8 45, .int .u8 43, .int .u8 51, .int .u8 22, .int .u8 53, .int .u8 39, .int .u8 33, .int .u8 30, .int .u8 24, .int .u8 18, .int .u8 12, .int .u8 5, .int .u8 63, .int .u8 55, .int .u8 48, .int .u8 27, .int .u8 60, .int .u8 41, .int .u8 37, .int .u8 16, .int .u8 46, .int .u8 35, .int .u8 44, .int .u8 21, .int .u8 52, .int .u8 32, .int .u8 23, .int .u8 11, .int .u8 54, .int .u8 26, .int .u8 40, .int .u8 15, .int .u8 34, .int .u8 20, .int .u8 31, .int .u8 10, .int .u8 25, .int .u8 14, .int .u8 19, .int .u8 9, .int .u8 13, .int .u8 8, .int .u8 7, .int .u8 6] t frozen | o=>o)) }
theorem laid_met (os:Os):laidMet Tryd.prog Rows.regressFitsRow.laid ((laidWorld os).forCall (fun _ _=>0) ⟨#[], #[Value.slice none 0 0,Value.slice none 0 0,Value.int .i64 0],[]⟩).memory :=
 laidMet_of_run' 8 (by kernel_rfl) (by kernel_rfl)
theorem reads (os:Os) {H:Type} (enc:TypeId × Value → H):∃ places,DataW.whole enc Tryd.prog ((laidWorld os).forCall (fun _ _=>0) ⟨#[], #[Value.slice none 0 0,Value.slice none 0 0,Value.int .i64 0],[]⟩).memory Tryd.f4.params.toList Rows.regressFitsSpec.vars false (#[Value.slice none 0 0,Value.slice none 0 0,Value.int .i64 0]:Array Value).toList 12 = some ([.nil, .nil, .lit (.int .i64 0)],[],places) :=
 ⟨[],by kernel_rfl⟩
theorem w_vars (os:Os):World.variablesB Tryd.prog ((laidWorld os).forCall (fun _ _=>0) ⟨#[], #[Value.slice none 0 0,Value.slice none 0 0,Value.int .i64 0],[]⟩) = true:=by kernel_rfl
theorem w_heap (os:Os):List.take ((begin Tryd.prog (fun _ _=>0) default).world.heap.size - Tryd.prog.globals.size) (List.drop Tryd.prog.globals.size ((laidWorld os).forCall (fun _ _=>0) ⟨#[], #[Value.slice none 0 0,Value.slice none 0 0,Value.int .i64 0],[]⟩).heap.toList) = List.drop Tryd.prog.globals.size (begin Tryd.prog (fun _ _=>0) default).world.heap.toList:=by kernel_rfl
theorem w_ok (os:Os):Input.okWideB Tryd.prog ((laidWorld os).forCall (fun _ _=>0) ⟨#[], #[Value.slice none 0 0,Value.slice none 0 0,Value.int .i64 0],[]⟩) 4 ⟨#[], #[Value.slice none 0 0,Value.slice none 0 0,Value.int .i64 0],[]⟩ = true:=by kernel_rfl
theorem w_sized (os:Os) {H:Type} (enc:TypeId × Value → H):ChangeSpec.sizedB enc Tryd.prog Tryd.f4 (OpenSpec.ofChange Rows.regressFitsSpec).bare false ((laidWorld os).forCall (fun _ _=>0) ⟨#[], #[Value.slice none 0 0,Value.slice none 0 0,Value.int .i64 0],[]⟩).memory #[Value.slice none 0 0,Value.slice none 0 0,Value.int .i64 0] 12 = true:=by kernel_rfl
theorem w_laid (os:Os):laidMetH Tryd.prog Rows.regressFitsRow.laid ((laidWorld os).forCall (fun _ _=>0) ⟨#[], #[Value.slice none 0 0,Value.slice none 0 0,Value.int .i64 0],[]⟩).memory:=by
 rw [Go.MakeChecks.laidMetH_plain _ _ _ (by kernel_rfl)]
 exact laid_met os
theorem jf0:(Rows.regressFitsRow.wf (OpenSpec.ofChange (OpenSpec.ofChange Rows.regressFitsSpec).bare)) = true:=by kernel_rfl
theorem jf1:(laidOutB Tryd.pinned.checked.prog) = true:=by kernel_rfl
theorem jf2:(mapsRowed Tryd.pinned.checked.prog) = true:=by kernel_rfl
theorem jf3:(Tryd.f4.params.all (Tryd.pinned.checked.prog.readableRec ·)) = true:=by kernel_rfl
theorem jf4:(namedTie Tryd.pinned.checked.prog Rows.regressFitsRow.named (OpenSpec.ofChange Rows.regressFitsSpec).bare.vars) = true:=by kernel_rfl
theorem jf5:((Rows.regressFitsRow.stops == [])) = true:=by kernel_rfl
theorem jf6:((Tryd.pinned.checked.prog.stops == [])) = true:=by kernel_rfl
theorem jf7:((Rows.regressFitsRow.knobs == [])) = true:=by kernel_rfl
theorem jf8:((Tryd.pinned.checked.prog.stopKnobs == [])) = true:=by kernel_rfl
theorem jf9:((Rows.regressFitsRow.inPlace == Tryd.pinned.checked.prog.inPlace 4)) = true:=by kernel_rfl
theorem jf10:((Rows.regressFitsRow.unfollowed == Tryd.pinned.checked.prog.unfollowed 4)) = true:=by kernel_rfl
theorem jf11:((Rows.regressFitsRow.recurses == Tryd.pinned.checked.prog.recurses 4)) = true:=by kernel_rfl
theorem jf12:((Rows.regressFitsRow.named == Tryd.pinned.checked.prog.varsNamed 4)) = true:=by kernel_rfl
theorem jf13:((Rows.regressFitsRow.maps == (Tryd.f4.params.toList ++ (OpenSpec.ofChange Rows.regressFitsSpec).bare.plain.varTypes Tryd.pinned.checked.prog).any (Tryd.pinned.checked.prog.mapsRec ·))) = true:=by kernel_rfl
theorem jf14:((Rows.regressFitsRow.ifaces == (Tryd.f4.params.toList ++ (OpenSpec.ofChange Rows.regressFitsSpec).bare.plain.varTypes Tryd.pinned.checked.prog).any (Tryd.pinned.checked.prog.ifacesRec ·))) = true:=by kernel_rfl
theorem jf15:((Rows.regressFitsRow.mapsOut == Tryd.pinned.checked.prog.mapsAmong Tryd.f4.resultTypes.toList)) = true:=by kernel_rfl
theorem jf16:((Rows.regressFitsRow.loops == (Tryd.f4.params.toList ++ (OpenSpec.ofChange Rows.regressFitsSpec).bare.plain.varTypes Tryd.pinned.checked.prog).any (Tryd.pinned.checked.prog.loopsFrom ·))) = true:=by kernel_rfl
theorem jf17:((Rows.regressFitsRow.wideKeys == (Tryd.f4.params.toList ++ (OpenSpec.ofChange Rows.regressFitsSpec).bare.plain.varTypes Tryd.pinned.checked.prog ++ Tryd.f4.resultTypes.toList).any (Tryd.pinned.checked.prog.wideKeysFrom ·))) = true:=by kernel_rfl
theorem jf18:((OpenSpec.ofChange Rows.regressFitsSpec).bare.vars.all (Tryd.pinned.checked.prog.varReadable ·)) = true:=by kernel_rfl
theorem jf19:(Tryd.f4.resultTypes.all (fun t=>Tryd.pinned.checked.prog.readableRec t && decide (t < Tryd.pinned.checked.prog.types.size))) = true:=by kernel_rfl
theorem jf20:((Rows.regressFitsRow.ifacesOut == Tryd.f4.resultTypes.toList.any (Tryd.pinned.checked.prog.ifacesRec ·))) = true:=by kernel_rfl
theorem jf21:((Rows.regressFitsRow.loopsOut == Tryd.f4.resultTypes.toList.any (Tryd.pinned.checked.prog.loopsFrom ·))) = true:=by kernel_rfl
theorem jf22:((Rows.regressFitsRow.plainKeys == Tryd.pinned.checked.prog.plainKeys)) = true:=by kernel_rfl
theorem jf23:(Rows.regressFitsRow.shortTexts.isNone) = true:=by kernel_rfl
theorem jf24:(Tryd.pinned.checked.prog.stopsHeard) = true:=by kernel_rfl
theorem jf25:(Tryd.pinned.checked.prog.mayEnter) = true:=by kernel_rfl
theorem jf26:((Rows.regressFitsRow.lifted == Tryd.pinned.checked.prog.liftsFinal)) = true:=by kernel_rfl
theorem jf27:((Tryd.pinned.checked.prog.make == some Rows.regressFitsRow.make)) = true:=by kernel_rfl
theorem jf28:((Rows.regressFitsRow.kinds == (if Rows.regressFitsRow.domain.isEmpty then [] else Tryd.f4.params.toList.map fun t=>match Tryd.pinned.checked.prog.underlying t with | some (.int k)=>some k | _=>none))) = true:=by kernel_rfl
theorem jf29:((Rows.regressFitsRow.pinned == Rows.regressFitsRow.pinnedBy)) = true:=by kernel_rfl
theorem jf30:((Rows.regressFitsRow.veiled == (Tryd.f4.params.toList ++ (OpenSpec.ofChange Rows.regressFitsSpec).bare.plain.varTypes Tryd.pinned.checked.prog ++ Tryd.f4.resultTypes.toList).any (Tryd.pinned.checked.prog.veiledRec ·))) = true:=by kernel_rfl
theorem jf31:(Rows.regressFitsRow.veiledFits Tryd.pinned.checked.prog Tryd.f4.params.toList (Tryd.f4.params.toList ++ (OpenSpec.ofChange Rows.regressFitsSpec).bare.plain.varTypes Tryd.pinned.checked.prog ++ Tryd.f4.resultTypes.toList)) = true:=by kernel_rfl
theorem bt {a b:Bool} (h:a = true) (k:b = true):(a && b) = true:=by rw [h,k];rfl
theorem closed:joinedFacts Tryd.pinned.checked.prog 4 Tryd.f4 (OpenSpec.ofChange Rows.regressFitsSpec).bare Rows.regressFitsRow = true:=by
 unfold joinedFacts
 exact bt (bt (bt (bt (bt (bt (bt (bt (bt (bt (bt (bt (bt (bt (bt (bt (bt (bt (bt (bt (bt (bt (bt (bt (bt (bt (bt (bt (bt (bt (bt (jf0) jf1) jf2) jf3) jf4) jf5) jf6) jf7) jf8) jf9) jf10) jf11) jf12) jf13) jf14) jf15) jf16) jf17) jf18) jf19) jf20) jf21) jf22) jf23) jf24) jf25) jf26) jf27) jf28) jf29) jf30) jf31
theorem wf_text:Rows.regressFitsRow.wfByText (OpenSpec.ofChange Rows.regressFitsSpec) = true:=by kernel_rfl
theorem main_is : Tryd.pinned.checked.prog.mainIs = some ((true, "849ba2f0f655f935182bab5dded498c8c48a0d5d6f36a63ce0c11fb894b4a42c".toList)) := by kernel_rfl
theorem goes:false = Rows.regressFitsRow.goesBy Tryd.pinned.checked.prog:=by kernel_rfl
theorem looks_is:false = Tryd.pinned.checked.prog.looks []:=by kernel_rfl
end Go.Proofs.YtbhegmcbpolemaaDoor.lawRegressFits
