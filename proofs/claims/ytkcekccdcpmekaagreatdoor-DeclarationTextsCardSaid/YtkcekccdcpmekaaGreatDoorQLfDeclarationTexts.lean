/- 'DeclarationTexts': the closed facts that its row asks for, by the kernel. Printed by law.py. -/
import Derived.Test.YtkcekccdcpmekaaGreatDoorRows
import Derived.Test.YtkcekccdcpmekaaGreatDoorQLw
import Derived.Test.YtkcekccdcpmekaaGreatDoorCards
import Derived.Deep.DeepHandedRow
import Derived.LaidLaws
import Derived.JoinedCond
set_option linter.unusedVariables false
set_option maxHeartbeats 64000000
namespace Go.Proofs.YtkcekccdcpmekaaGreatDoor.lawDeclarationTexts
open Go Go.RowKit Go.Av
set_option maxRecDepth 100000
theorem row_err (u : TypeId) (h : Tryz.prog.typeName? 3 u = some "*errors.errorString") : u = 226 :=
 typeName_ptr_named (nm := "errors.errorString") (by rw [show "*" ++ "errors.errorString" = "*errors.errorString" by decide]; kernel_rfl) (by kernel_rfl) (by decide) u (by rw [show "*" ++ "errors.errorString" = "*errors.errorString" by decide]; exact h)
theorem own:ownKnob Tryz.prog.godebug=none:=by kernel_rfl
theorem laidOut:laidOutB Tryz.prog=true:=by kernel_rfl
theorem readable:(Tryz.f4.params.toList.all fun t=>Tryz.prog.readableRec t && decide (t<Tryz.prog.types.size))=true:=by kernel_rfl
theorem tabs_ok(W:World)(h:laidMetH Tryz.prog Rows.declarationTextsRow.laid W)(hsh:W.ShapedOpen Tryz.prog):w7 Gr W:=by
 rw[Go.MakeChecks.laidMetH_plain _ _ _ (by kernel_rfl)]at h
 have t2 := Lh (t := 212) (e := 5) (n := 32) (k := .u8) (zs := [0,1,28,2,29,14,24,3,30,22,20,15,25,17,4,8,31,27,13,23,21,19,16,7,26,12,18,6,11,5,10,9]) (by kernel_rfl : Tryz.prog.globalNamed "math/bits.deBruijn32tab" = some 2) (by kernel_rfl) (by kernel_rfl) (by kernel_rfl) (by kernel_rfl) (by kernel_rfl) h
 have h:=h.tail
 have t3 := Lh (t := 213) (e := 5) (n := 64) (k := .u8) (zs := [0,1,56,2,57,49,28,3,61,58,42,50,38,29,17,4,62,47,59,36,45,43,51,22,53,39,33,30,24,18,12,5,63,55,48,27,60,41,37,16,46,35,44,21,52,32,23,11,54,26,40,15,34,20,31,10,25,14,19,9,13,8,7,6]) (by kernel_rfl : Tryz.prog.globalNamed "math/bits.deBruijn64tab" = some 3) (by kernel_rfl) (by kernel_rfl) (by kernel_rfl) (by kernel_rfl) (by kernel_rfl) h
 have h:=h.tail
 have t1 := Lh (t := 193) (e := 171) (n := 20) (k := .u64) (zs := [1,10,100,1000,10000,100000,1000000,10000000,100000000,1000000000,10000000000,100000000000,1000000000000,10000000000000,100000000000000,1000000000000000,10000000000000000,100000000000000000,1000000000000000000,10000000000000000000]) (by kernel_rfl : Tryz.prog.globalNamed "internal/strconv.uint64pow10" = some 1) (by kernel_rfl) (by kernel_rfl) (by kernel_rfl) (by kernel_rfl) (by kernel_rfl) h
 have h:=h.tail
 have h:=h.tail
 have e7 := Sg (ti := 86) (te := 228) (ts := 9) h (by kernel_rfl : Tryz.prog.globalNamed "strconv.ErrRange" = some 7) (by kernel_rfl) (by kernel_rfl) row_err (by kernel_rfl) (by kernel_rfl) (by kernel_rfl) (by kernel_rfl) (by kernel_rfl)
 have h:=h.tail
 have e6 := Sg (ti := 86) (te := 228) (ts := 9) h (by kernel_rfl : Tryz.prog.globalNamed "strconv.ErrSyntax" = some 6) (by kernel_rfl) (by kernel_rfl) row_err (by kernel_rfl) (by kernel_rfl) (by kernel_rfl) (by kernel_rfl) (by kernel_rfl)
 have h:=h.tail
 exact cF ⟨t2,t3,t1,trivial⟩ ⟨e7,e6,trivial⟩ ⟨cE (t:=3) hsh (by kernel_rfl) (by kernel_rfl) (by kernel_rfl) (by kernel_rfl) (by kernel_rfl),trivial⟩
/-- A world for the witness: the settled one,the tables holding what their initialisers lay. -/
noncomputable def laidWorld(os:Os):World :=
 { World.holding Tryz.prog os ⟨#[.cells #[.string ⟨([118,97,108,117,101,32,111,117,116,32,111,102,32,114,97,110,103,101]:List UInt8).toArray⟩] 228,.cells #[.string ⟨([105,110,118,97,108,105,100,32,115,121,110,116,97,120]:List UInt8).toArray⟩] 228],#[],[]⟩with heap:=((((((((World.holding Tryz.prog os ⟨#[.cells #[.string ⟨([118,97,108,117,101,32,111,117,116,32,111,102,32,114,97,110,103,101]:List UInt8).toArray⟩] 228,.cells #[.string ⟨([105,110,118,97,108,105,100,32,115,121,110,116,97,120]:List UInt8).toArray⟩] 228],#[],[]⟩).heap.modify 2 (fun o=>match o with|.cells _ t frozen=>.cells #[.int .u8 0,.int .u8 1,.int .u8 28,.int .u8 2,.int .u8 29,.int .u8 14,.int .u8 24,.int .u8 3,.int .u8 30,.int .u8 22,.int .u8 20,.int .u8 15,.int .u8 25,.int .u8 17,.int .u8 4,.int .u8 8,.int .u8 31,.int .u8 27,.int .u8 13,.int .u8 23,.int .u8 21,.int .u8 19,.int .u8 16,.int .u8 7,.int .u8 26,.int .u8 12,.int .u8 18,.int .u8 6,.int .u8 11,.int .u8 5,.int .u8 10,.int .u8 9] t frozen|o=>o)).modify 3 (fun o=>match o with|.cells _ t frozen=>.cells #[.int .u8 0,.int .u8 1,.int .u8 56,.int .u8 2,.int .u8 57,.int .u8 49,.int .u8 28,.int .u8 3,.int .u8 61,.int .u8 58,.int .u8 42,.int .u8 50,.int .u8 38,.int .u8 29,.int .u8 17,.int .u8 4,.int .u8 62,.int .u8 47,.int .u8 59,.int .u8 36,.int .u8 45,.int .u8 43,.int .u8 51,.int .u8 22,.int .u8 53,.int .u8 39,.int .u8 33,.int .u8 30,.int .u8 24,.int .u8 18,.int .u8 12,.int .u8 5,.int .u8 63,.int .u8 55,.int .u8 48,.int .u8 27,.int .u8 60,.int .u8 41,.int .u8 37,.int .u8 16,.int .u8 46,.int .u8 35,.int .u8 44,.int .u8 21,.int .u8 52,.int .u8 32,.int .u8 23,.int .u8 11,.int .u8 54,.int .u8 26,.int .u8 40,.int .u8 15,.int .u8 34,.int .u8 20,.int .u8 31,.int .u8 10,.int .u8 25,.int .u8 14,.int .u8 19,.int .u8 9,.int .u8 13,.int .u8 8,.int .u8 7,.int .u8 6] t frozen|o=>o)).modify 1 (fun o=>match o with|.cells _ t frozen=>.cells #[.int .u64 1,.int .u64 10,.int .u64 100,.int .u64 1000,.int .u64 10000,.int .u64 100000,.int .u64 1000000,.int .u64 10000000,.int .u64 100000000,.int .u64 1000000000,.int .u64 10000000000,.int .u64 100000000000,.int .u64 1000000000000,.int .u64 10000000000000,.int .u64 100000000000000,.int .u64 1000000000000000,.int .u64 10000000000000000,.int .u64 100000000000000000,.int .u64 1000000000000000000,.int .u64 10000000000000000000] t frozen|o=>o)).modify 5 (fun o=>match o with|.cells _ t frozen=>.cells #[.int .u8 128,.int .u8 191,.int .u8 160,.int .u8 191,.int .u8 128,.int .u8 159,.int .u8 144,.int .u8 191,.int .u8 128,.int .u8 143,.int .u8 0,.int .u8 0,.int .u8 0,.int .u8 0,.int .u8 0,.int .u8 0,.int .u8 0,.int .u8 0,.int .u8 0,.int .u8 0,.int .u8 0,.int .u8 0,.int .u8 0,.int .u8 0,.int .u8 0,.int .u8 0,.int .u8 0,.int .u8 0,.int .u8 0,.int .u8 0,.int .u8 0,.int .u8 0] t frozen|o=>o)).modify 7 (fun o=>match o with|.cells _ t frozen=>.cells #[.iface 226 (.pointer (some ⟨(World.holding Tryz.prog default ⟨#[],#[],[]⟩).heap.size+0,0,none⟩))] t frozen|o=>o)).modify 6 (fun o=>match o with|.cells _ t frozen=>.cells #[.iface 226 (.pointer (some ⟨(World.holding Tryz.prog default ⟨#[],#[],[]⟩).heap.size+1,0,none⟩))] t frozen|o=>o)).modify 4 (fun o=>match o with|.cells _ t frozen=>.cells (Go.Pinned.utf8FirstZ.map fun z:Nat=>Value.int .u8 (z:Int)).toArray t frozen|o=>o)) }
theorem laid_met(os:Os):laidMet Tryz.prog Rows.declarationTextsRow.laid ((laidWorld os).forCall (fun _ _=>0) ⟨#[],#[Value.slice none 0 0,Value.string ⟨([]:List UInt8).toArray⟩,Value.int .i64 0,Value.int .i64 0,Value.int .u8 0],[]⟩).memory :=
 laidMet_of_run' 8 (by kernel_rfl) (by kernel_rfl)
theorem reads(os:Os){H:Type}(enc:TypeId×Value→H):∃places,DataW.whole enc Tryz.prog ((laidWorld os).forCall (fun _ _=>0) ⟨#[],#[Value.slice none 0 0,Value.string ⟨([]:List UInt8).toArray⟩,Value.int .i64 0,Value.int .i64 0,Value.int .u8 0],[]⟩).memory Tryz.f4.params.toList Rows.declarationTextsSpec.vars false (#[Value.slice none 0 0,Value.string ⟨([]:List UInt8).toArray⟩,Value.int .i64 0,Value.int .i64 0,Value.int .u8 0]:Array Value).toList 12=some ([.nil,.lit (.string []),.lit (.int .i64 0),.lit (.int .i64 0),.lit (.int .u8 0)],[],places) :=
 ⟨[],by kernel_rfl⟩
theorem w_vars(os:Os):World.variablesB Tryz.prog ((laidWorld os).forCall (fun _ _=>0) ⟨#[],#[Value.slice none 0 0,Value.string ⟨([]:List UInt8).toArray⟩,Value.int .i64 0,Value.int .i64 0,Value.int .u8 0],[]⟩)=true:=by kernel_rfl
theorem w_heap(os:Os):List.take ((begin Tryz.prog (fun _ _=>0) default).world.heap.size-Tryz.prog.globals.size) (List.drop Tryz.prog.globals.size ((laidWorld os).forCall (fun _ _=>0) ⟨#[],#[Value.slice none 0 0,Value.string ⟨([]:List UInt8).toArray⟩,Value.int .i64 0,Value.int .i64 0,Value.int .u8 0],[]⟩).heap.toList)=List.drop Tryz.prog.globals.size (begin Tryz.prog (fun _ _=>0) default).world.heap.toList:=by kernel_rfl
theorem w_ok(os:Os):Input.okWideB Tryz.prog ((laidWorld os).forCall (fun _ _=>0) ⟨#[],#[Value.slice none 0 0,Value.string ⟨([]:List UInt8).toArray⟩,Value.int .i64 0,Value.int .i64 0,Value.int .u8 0],[]⟩) 4 ⟨#[],#[Value.slice none 0 0,Value.string ⟨([]:List UInt8).toArray⟩,Value.int .i64 0,Value.int .i64 0,Value.int .u8 0],[]⟩=true:=by kernel_rfl
theorem w_sized(os:Os){H:Type}(enc:TypeId×Value→H):ChangeSpec.sizedB enc Tryz.prog Tryz.f4 (OpenSpec.ofChange Rows.declarationTextsSpec).bare false ((laidWorld os).forCall (fun _ _=>0) ⟨#[],#[Value.slice none 0 0,Value.string ⟨([]:List UInt8).toArray⟩,Value.int .i64 0,Value.int .i64 0,Value.int .u8 0],[]⟩).memory #[Value.slice none 0 0,Value.string ⟨([]:List UInt8).toArray⟩,Value.int .i64 0,Value.int .i64 0,Value.int .u8 0] 12=true:=by kernel_rfl
theorem w_laid(os:Os):laidMetH Tryz.prog Rows.declarationTextsRow.laid ((laidWorld os).forCall (fun _ _=>0) ⟨#[],#[Value.slice none 0 0,Value.string ⟨([]:List UInt8).toArray⟩,Value.int .i64 0,Value.int .i64 0,Value.int .u8 0],[]⟩).memory:=by
 rw[Go.MakeChecks.laidMetH_plain _ _ _ (by kernel_rfl)]
 exact laid_met os
theorem jf0:(Rows.declarationTextsRow.wf (OpenSpec.ofChange (OpenSpec.ofChange Rows.declarationTextsSpec).bare))=true:=by kernel_rfl
theorem jf1:(laidOutB Tryz.pinned.checked.prog)=true:=by kernel_rfl
theorem jf2:(mapsRowed Tryz.pinned.checked.prog)=true:=by kernel_rfl
theorem jf3:(Tryz.f4.params.all (Tryz.pinned.checked.prog.readableRec ·))=true:=by kernel_rfl
theorem jf4:(namedTie Tryz.pinned.checked.prog Rows.declarationTextsRow.named (OpenSpec.ofChange Rows.declarationTextsSpec).bare.vars)=true:=by kernel_rfl
theorem jf5:((Rows.declarationTextsRow.stops == []))=true:=by kernel_rfl
theorem jf6:((Tryz.pinned.checked.prog.stops == []))=true:=by kernel_rfl
theorem jf7:((Rows.declarationTextsRow.knobs == []))=true:=by kernel_rfl
theorem jf8:((Tryz.pinned.checked.prog.stopKnobs == []))=true:=by kernel_rfl
theorem jf9:((Rows.declarationTextsRow.inPlace == Tryz.pinned.checked.prog.inPlace 4))=true:=by kernel_rfl
theorem jf10:((Rows.declarationTextsRow.unfollowed == Tryz.pinned.checked.prog.unfollowed 4))=true:=by kernel_rfl
theorem jf11:((Rows.declarationTextsRow.recurses == Tryz.pinned.checked.prog.recurses 4))=true:=by kernel_rfl
theorem jf12:((Rows.declarationTextsRow.named == Tryz.pinned.checked.prog.varsNamed 4))=true:=by kernel_rfl
theorem jf13:((Rows.declarationTextsRow.maps == (Tryz.f4.params.toList++(OpenSpec.ofChange Rows.declarationTextsSpec).bare.plain.varTypes Tryz.pinned.checked.prog).any (Tryz.pinned.checked.prog.mapsRec ·)))=true:=by kernel_rfl
theorem jf14:((Rows.declarationTextsRow.ifaces == (Tryz.f4.params.toList++(OpenSpec.ofChange Rows.declarationTextsSpec).bare.plain.varTypes Tryz.pinned.checked.prog).any (Tryz.pinned.checked.prog.ifacesRec ·)))=true:=by kernel_rfl
theorem jf15:((Rows.declarationTextsRow.mapsOut == Tryz.pinned.checked.prog.mapsAmong Tryz.f4.resultTypes.toList))=true:=by kernel_rfl
theorem jf16:((Rows.declarationTextsRow.loops == (Tryz.f4.params.toList++(OpenSpec.ofChange Rows.declarationTextsSpec).bare.plain.varTypes Tryz.pinned.checked.prog).any (Tryz.pinned.checked.prog.loopsFrom ·)))=true:=by kernel_rfl
theorem jf17:((Rows.declarationTextsRow.wideKeys == (Tryz.f4.params.toList++(OpenSpec.ofChange Rows.declarationTextsSpec).bare.plain.varTypes Tryz.pinned.checked.prog++Tryz.f4.resultTypes.toList).any (Tryz.pinned.checked.prog.wideKeysFrom ·)))=true:=by kernel_rfl
theorem jf18:((OpenSpec.ofChange Rows.declarationTextsSpec).bare.vars.all (Tryz.pinned.checked.prog.varReadable ·))=true:=by kernel_rfl
theorem jf19:(Tryz.f4.resultTypes.all (fun t=>Tryz.pinned.checked.prog.readableRec t && decide (t<Tryz.pinned.checked.prog.types.size)))=true:=by kernel_rfl
theorem jf20:((Rows.declarationTextsRow.ifacesOut == Tryz.f4.resultTypes.toList.any (Tryz.pinned.checked.prog.ifacesRec ·)))=true:=by kernel_rfl
theorem jf21:((Rows.declarationTextsRow.loopsOut == Tryz.f4.resultTypes.toList.any (Tryz.pinned.checked.prog.loopsFrom ·)))=true:=by kernel_rfl
theorem jf22:((Rows.declarationTextsRow.plainKeys == Tryz.pinned.checked.prog.plainKeys))=true:=by kernel_rfl
theorem jf23:(Rows.declarationTextsRow.shortTexts.isNone)=true:=by kernel_rfl
theorem jf24:(Tryz.pinned.checked.prog.stopsHeard)=true:=by kernel_rfl
theorem jf25:(Tryz.pinned.checked.prog.mayEnter)=true:=by kernel_rfl
theorem jf26:((Rows.declarationTextsRow.lifted == Tryz.pinned.checked.prog.liftsFinal))=true:=by kernel_rfl
theorem jf27:((Tryz.pinned.checked.prog.make == some Rows.declarationTextsRow.make))=true:=by kernel_rfl
theorem jf28:((Rows.declarationTextsRow.kinds == (if Rows.declarationTextsRow.domain.isEmpty then []else Tryz.f4.params.toList.map fun t=>match Tryz.pinned.checked.prog.underlying t with|some (.int k)=>some k|_=>none)))=true:=by kernel_rfl
theorem jf29:((Rows.declarationTextsRow.pinned == Rows.declarationTextsRow.pinnedBy))=true:=by kernel_rfl
theorem jf30:((Rows.declarationTextsRow.veiled == (Tryz.f4.params.toList++(OpenSpec.ofChange Rows.declarationTextsSpec).bare.plain.varTypes Tryz.pinned.checked.prog++Tryz.f4.resultTypes.toList).any (Tryz.pinned.checked.prog.veiledRec ·)))=true:=by kernel_rfl
theorem jf31:(Rows.declarationTextsRow.veiledFits Tryz.pinned.checked.prog Tryz.f4.params.toList (Tryz.f4.params.toList++(OpenSpec.ofChange Rows.declarationTextsSpec).bare.plain.varTypes Tryz.pinned.checked.prog++Tryz.f4.resultTypes.toList))=true:=by kernel_rfl
theorem bt{a b:Bool}(h:a=true)(k:b=true):(a && b)=true:=by rw[h,k];rfl
theorem closed:joinedFacts Tryz.pinned.checked.prog 4 Tryz.f4 (OpenSpec.ofChange Rows.declarationTextsSpec).bare Rows.declarationTextsRow=true:=by
 unfold joinedFacts
 exact bt (bt (bt (bt (bt (bt (bt (bt (bt (bt (bt (bt (bt (bt (bt (bt (bt (bt (bt (bt (bt (bt (bt (bt (bt (bt (bt (bt (bt (bt (bt (jf0) jf1) jf2) jf3) jf4) jf5) jf6) jf7) jf8) jf9) jf10) jf11) jf12) jf13) jf14) jf15) jf16) jf17) jf18) jf19) jf20) jf21) jf22) jf23) jf24) jf25) jf26) jf27) jf28) jf29) jf30) jf31
theorem wf_text:Rows.declarationTextsRow.wfByText (OpenSpec.ofChange Rows.declarationTextsSpec)=true:=by kernel_rfl
theorem main_is : Tryz.pinned.checked.prog.mainIs = some ((true, "585a7653790964e30a1a5f2ace8cd72780a88f6306ea9581ee1d14024cba0cb0".toList)) := by kernel_rfl
theorem goes:false=Rows.declarationTextsRow.goesBy Tryz.pinned.checked.prog:=by kernel_rfl
theorem looks_is:true=Tryz.pinned.checked.prog.looks []:=by kernel_rfl
end Go.Proofs.YtkcekccdcpmekaaGreatDoor.lawDeclarationTexts
