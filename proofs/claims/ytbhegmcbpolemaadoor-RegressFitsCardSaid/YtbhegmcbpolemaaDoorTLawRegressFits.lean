/- 'RegressFits' holds: for every input that the row lets in, the call returns true, and each argument reads behind it as it did. -/
import Derived.Test.YtbhegmcbpolemaaDoorTJy9
import Derived.Test.YtbhegmcbpolemaaDoorTLfRegressFits
import Derived.Test.YtbhegmcbpolemaaDoorTie
set_option linter.unusedVariables false
namespace Go.Proofs.YtbhegmcbpolemaaDoor.lawRegressFits
open Go Go.RowKit Go.Av
set_option maxRecDepth 100000
theorem contract (H:Type) (enc:TypeId × Value → H) (W:World) (base:Nat) (args:Array Value) (ds gs:List (DataW H)) (before:List MemPlace)
  (hval:∀ (j:Nat) t v,Tryd.f4.params[j]? = some t → args[j]? = some v → Value.okWide Tryd.prog W .any base t v)
  (hW:DataW.Whole enc Tryd.prog Tryd.f4.params.toList Rows.regressFitsSpec.vars false W args.toList ds gs before) (hlaid:laidMetH Tryd.prog Rows.regressFitsRow.laid W) :
  Calls Tryd.prog 4 args W fun e W'=>∃ v,e = .returned v ∧ Rows.regressFitsSpec.post enc Tryd.prog Tryd.f4 false true false false W args v W' :=
 Mg (f:=4) (fn:=Tryd.f4) (s:=Rows.regressFitsSpec) (tb:=4) laidOut readable Tryd.underlying4 rfl rfl (fun ds h=>by
  match ds,h with
  | [d1,d2,d3],_=>rfl) Ld (tabs_ok W hlaid) hval hW
theorem lifted (os:Os) (started:os.Started) (H:Type) (enc:TypeId × Value → H) (F:Stop.Interp) :
  ReturnsInHanded {} Tryd.checked os 4 .any ((OpenSpec.ofChange Rows.regressFitsSpec).preRow enc Tryd.prog Tryd.f4 Rows.regressFitsRow.domain false Rows.regressFitsRow.laid) (((OpenSpec.ofChange Rows.regressFitsSpec).at F).post enc Tryd.prog Tryd.f4 false true false false):=by
 obtain ⟨places,hx⟩:=reads os enc
 refine returnsInHanded_of_row (C:=Tryd.checked) (s:=OpenSpec.ofChange Rows.regressFitsSpec) own started (by kernel_rfl) Tryd.func4
  (witness_row_at (enc:=enc) (C:=Tryd.checked) false (laidWorld os) #[Value.slice none 0 0,Value.slice none 0 0,Value.int .i64 0] rfl (w_vars os) (w_heap os) (w_ok os)
   (OpenSpec.preRow_of_cond 12 hx (by kernel_rfl) (fun k hk=>by cases hk) (w_sized os enc) (w_laid os))) ?_
 intro W base args ds gs before hval hW _ _ hsz hlaid hsh _
 exact contract H enc W base args ds gs before hval hW hlaid
theorem said:Rows.RegressFitsSaid :=
 OpenClaim.holds_of_cond 4 Tryd.f4 rfl rfl rfl rfl rfl rfl rfl ⟨rfl,rfl,rfl,rfl,rfl⟩ rfl rfl rfl rfl rfl (by kernel_rfl) Tryd.func4 closed
  (of_decide_eq_true (by kernel_rfl)) (by unfold Func.isWrapper;first | (rw [if_pos (by decide +kernel)];kernel_rfl) | (rw [if_neg (by decide +kernel)];exact ⟨rfl,rfl⟩))
  (fun os started H enc _ F=>by rw [OpenClaim.pre_eq_preRow];exact lifted os started H enc F)
theorem noStand:(Tryd.f4.params.toList.all fun t=>!Tryd.prog.wantsStandIn t) = true:=by kernel_rfl
theorem plain (f:FuncId) (fn:Func) (hf:Tryd.pinned.checked.prog.funcNamed Rows.regressFitsRow.func = some f) (hfn:Tryd.pinned.checked.prog.funcs[f]? = some fn) :
  false = Tryd.pinned.checked.prog.looks [] ∧ ∀ (j:Nat) t,fn.params[j]? = some t → Tryd.pinned.checked.prog.wantsStandIn t = false:=by
 obtain rfl:f = 4:=Option.some.inj ((show Tryd.prog.funcNamed Rows.regressFitsRow.func = some 4 by kernel_rfl).symm.trans hf) |>.symm
 obtain rfl:fn = Tryd.f4:=(Option.some.inj (Tryd.func4.symm.trans hfn)).symm
 refine ⟨looks_is,fun j t ht=>?_⟩
 have h:=List.all_eq_true.1 noStand t (by simpa using Array.mem_of_getElem? ht)
 have h2:Tryd.prog.wantsStandIn t = false:=by simpa using h
 exact h2
theorem holds:Rows.RegressFitsCardSaid :=
 Claim7.holds_tied_plain_at .later [] _ _ _ _ said (fun _ h=>by cases h) wf_text (fun _ h=>by cases h) regressFits_row_tie rfl ⟨rfl,rfl⟩ main_is rfl plain goes
end Go.Proofs.YtbhegmcbpolemaaDoor.lawRegressFits
