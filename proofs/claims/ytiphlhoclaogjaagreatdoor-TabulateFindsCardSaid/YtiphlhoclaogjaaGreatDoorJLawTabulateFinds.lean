/- 'TabulateFinds' holds: for every input that the row lets in, the call returns true, and each argument reads behind it as it did. -/
import Derived.Test.YtiphlhoclaogjaaGreatDoorJLw
import Derived.Test.YtiphlhoclaogjaaGreatDoorJLfTabulateFinds
import Derived.Test.YtiphlhoclaogjaaGreatDoorTie
set_option linter.unusedVariables false
set_option maxHeartbeats 64000000
namespace Go.Proofs.YtiphlhoclaogjaaGreatDoor.lawTabulateFinds
open Go Go.RowKit Go.Av
set_option maxRecDepth 100000
theorem contract(H:Type)(enc:TypeId×Value→H)(W:World)(base:Nat)(args:Array Value)(ds gs:List (DataW H))(before:List MemPlace)
  (hval:∀(j:Nat) t v,Tryz.f5.params[j]?=some t→args[j]?=some v→Value.okWide Tryz.prog W .any base t v)
  (hW:DataW.Whole enc Tryz.prog Tryz.f5.params.toList Rows.tabulateFindsSpec.vars false W args.toList ds gs before) (hlaid:laidMetH Tryz.prog Rows.tabulateFindsRow.laid W) :
  Calls Tryz.prog 5 args W fun e W'=>∃v,e=.returned v∧Rows.tabulateFindsSpec.post enc Tryz.prog Tryz.f5 false true false false W args v W' :=
 dY (f:=5) (fn:=Tryz.f5) (s:=Rows.tabulateFindsSpec) (tb:=4) laidOut readable Tryz.underlying4 rfl rfl (fun ds h=>by
  match ds,h with
  |[d1,d2,d3,d4,d5],_=>rfl) VQ (tabs_ok W hlaid) hval hW
theorem lifted(os:Os)(started:os.Started)(H:Type)(enc:TypeId×Value→H)(F:Stop.Interp):
  ReturnsInHanded {} Tryz.checked os 5 .any ((OpenSpec.ofChange Rows.tabulateFindsSpec).preRow enc Tryz.prog Tryz.f5 Rows.tabulateFindsRow.domain false Rows.tabulateFindsRow.laid) (((OpenSpec.ofChange Rows.tabulateFindsSpec).at F).post enc Tryz.prog Tryz.f5 false true false false):=by
 obtain⟨places,hx⟩:=reads os enc
 refine returnsInHanded_of_row (C:=Tryz.checked) (s:=OpenSpec.ofChange Rows.tabulateFindsSpec) own started (by kernel_rfl) Tryz.func5
  (witness_row_at (enc:=enc) (C:=Tryz.checked) false (laidWorld os) #[Value.slice none 0 0,Value.agg #[.slice none 0 0,.int .i64 0,.slice none 0 0],Value.slice none 0 0,Value.int .i64 0,Value.int .i64 0] rfl (w_vars os) (w_heap os) (w_ok os)
   (OpenSpec.preRow_of_cond 12 hx (by kernel_rfl) (fun k hk=>by cases hk) (w_sized os enc) (w_laid os))) ?_
 intro W base args ds gs before hval hW _ _ hsz hlaid hsh _
 exact contract H enc W base args ds gs before hval hW hlaid
theorem said:Rows.TabulateFindsSaid :=
 OpenClaim.holds_of_cond 5 Tryz.f5 rfl rfl rfl rfl rfl rfl rfl ⟨rfl,rfl,rfl,rfl,rfl⟩ rfl rfl rfl rfl rfl (by kernel_rfl) Tryz.func5 closed
  (of_decide_eq_true (by kernel_rfl)) (by unfold Func.isWrapper;first|(rw[if_pos (by decide +kernel)];kernel_rfl)|(rw[if_neg (by decide +kernel)];exact⟨rfl,rfl⟩))
  (fun os started H enc _ F=>by rw[OpenClaim.pre_eq_preRow];exact lifted os started H enc F)
theorem noStand:(Tryz.f5.params.toList.all fun t=>!Tryz.prog.wantsStandIn t)=true:=by kernel_rfl
theorem plain(f:FuncId)(fn:Func)(hf:Tryz.pinned.checked.prog.funcNamed Rows.tabulateFindsRow.func=some f)(hfn:Tryz.pinned.checked.prog.funcs[f]?=some fn):
  false=Tryz.pinned.checked.prog.looks []∧∀(j:Nat) t,fn.params[j]?=some t→Tryz.pinned.checked.prog.wantsStandIn t=false:=by
 obtain rfl:f=5:=Option.some.inj ((show Tryz.prog.funcNamed Rows.tabulateFindsRow.func=some 5 by kernel_rfl).symm.trans hf) |>.symm
 obtain rfl:fn=Tryz.f5:=(Option.some.inj (Tryz.func5.symm.trans hfn)).symm
 refine⟨looks_is,fun j t ht=>?_⟩
 have h:=List.all_eq_true.1 noStand t (by simpa using Array.mem_of_getElem? ht)
 have h2:Tryz.prog.wantsStandIn t=false:=by simpa using h
 exact h2
theorem holds:Rows.TabulateFindsCardSaid :=
 Claim7.holds_tied_plain_at .later [] _ _ _ _ said (fun _ h=>by cases h) wf_text (fun _ h=>by cases h) tabulateFinds_row_tie rfl ⟨rfl,rfl⟩ main_is rfl plain goes
end Go.Proofs.YtiphlhoclaogjaaGreatDoor.lawTabulateFinds
