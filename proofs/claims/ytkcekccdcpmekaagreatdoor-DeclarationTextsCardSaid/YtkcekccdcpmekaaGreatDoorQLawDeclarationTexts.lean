/- 'DeclarationTexts' holds: for every input that the row lets in, the call returns true, and each argument reads behind it as it did. -/
import Derived.Test.YtkcekccdcpmekaaGreatDoorQLw
import Derived.Test.YtkcekccdcpmekaaGreatDoorQLfDeclarationTexts
import Derived.Test.YtkcekccdcpmekaaGreatDoorTie
set_option linter.unusedVariables false
set_option maxHeartbeats 64000000
namespace Go.Proofs.YtkcekccdcpmekaaGreatDoor.lawDeclarationTexts
open Go Go.RowKit Go.Av
set_option maxRecDepth 100000
theorem contract(H:Type)(enc:TypeId×Value→H)(W:World)(base:Nat)(args:Array Value)(ds gs:List (DataW H))(before:List MemPlace)
  (hval:∀(j:Nat) t v,Tryz.f4.params[j]?=some t→args[j]?=some v→Value.okWide Tryz.prog W .any base t v)
  (hW:DataW.Whole enc Tryz.prog Tryz.f4.params.toList Rows.declarationTextsSpec.vars false W args.toList ds gs before) (hlaid:laidMetH Tryz.prog Rows.declarationTextsRow.laid W) (hsh:W.ShapedOpen Tryz.prog) :
  Calls Tryz.prog 4 args W fun e W'=>∃v,e=.returned v∧Rows.declarationTextsSpec.post enc Tryz.prog Tryz.f4 false true false false W args v W' :=
 Zr (f:=4) (fn:=Tryz.f4) (s:=Rows.declarationTextsSpec) (tb:=4) laidOut readable Tryz.underlying4 rfl rfl (fun ds h=>by
  match ds,h with
  |[d1,d2,d3,d4,d5],_=>rfl) cD (tabs_ok W hlaid hsh) hval hW
theorem lifted(os:Os)(started:os.Started)(H:Type)(enc:TypeId×Value→H)(F:Stop.Interp):
  ReturnsInHanded {} Tryz.checked os 4 .any ((OpenSpec.ofChange Rows.declarationTextsSpec).preRow enc Tryz.prog Tryz.f4 Rows.declarationTextsRow.domain false Rows.declarationTextsRow.laid) (((OpenSpec.ofChange Rows.declarationTextsSpec).at F).post enc Tryz.prog Tryz.f4 false true false false):=by
 obtain⟨places,hx⟩:=reads os enc
 refine returnsInHanded_of_row (C:=Tryz.checked) (s:=OpenSpec.ofChange Rows.declarationTextsSpec) own started (by kernel_rfl) Tryz.func4
  (witness_row_at (enc:=enc) (C:=Tryz.checked) false (laidWorld os) #[Value.slice none 0 0,Value.string ⟨([]:List UInt8).toArray⟩,Value.int .i64 0,Value.int .i64 0,Value.int .u8 0] rfl (w_vars os) (w_heap os) (w_ok os)
   (OpenSpec.preRow_of_cond 12 hx (by kernel_rfl) (fun k hk=>by cases hk) (w_sized os enc) (w_laid os))) ?_
 intro W base args ds gs before hval hW _ _ hsz hlaid hsh _
 exact contract H enc W base args ds gs before hval hW hlaid hsh
theorem said:Rows.DeclarationTextsSaid :=
 OpenClaim.holds_of_cond 4 Tryz.f4 rfl rfl rfl rfl rfl rfl rfl ⟨rfl,rfl,rfl,rfl,rfl⟩ rfl rfl rfl rfl rfl (by kernel_rfl) Tryz.func4 closed
  (of_decide_eq_true (by kernel_rfl)) (by unfold Func.isWrapper;first|(rw[if_pos (by decide +kernel)];kernel_rfl)|(rw[if_neg (by decide +kernel)];exact⟨rfl,rfl⟩))
  (fun os started H enc _ F=>by rw[OpenClaim.pre_eq_preRow];exact lifted os started H enc F)
theorem noStand:(Tryz.f4.params.toList.all fun t=>!Tryz.prog.wantsStandIn t)=true:=by kernel_rfl
theorem plain(f:FuncId)(fn:Func)(hf:Tryz.pinned.checked.prog.funcNamed Rows.declarationTextsRow.func=some f)(hfn:Tryz.pinned.checked.prog.funcs[f]?=some fn):
  true=Tryz.pinned.checked.prog.looks []∧∀(j:Nat) t,fn.params[j]?=some t→Tryz.pinned.checked.prog.wantsStandIn t=false:=by
 obtain rfl:f=4:=Option.some.inj ((show Tryz.prog.funcNamed Rows.declarationTextsRow.func=some 4 by kernel_rfl).symm.trans hf) |>.symm
 obtain rfl:fn=Tryz.f4:=(Option.some.inj (Tryz.func4.symm.trans hfn)).symm
 refine⟨looks_is,fun j t ht=>?_⟩
 have h:=List.all_eq_true.1 noStand t (by simpa using Array.mem_of_getElem? ht)
 have h2:Tryz.prog.wantsStandIn t=false:=by simpa using h
 exact h2
theorem holds:Rows.DeclarationTextsCardSaid :=
 Claim7.holds_tied_plain_at .later [] _ _ _ _ said (fun _ h=>by cases h) wf_text (fun _ h=>by cases h) declarationTexts_row_tie rfl ⟨rfl,rfl⟩ main_is rfl plain goes
end Go.Proofs.YtkcekccdcpmekaaGreatDoor.lawDeclarationTexts
