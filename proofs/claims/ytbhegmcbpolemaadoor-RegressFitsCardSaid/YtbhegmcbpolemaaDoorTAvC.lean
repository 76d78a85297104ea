/- Stores of several cells into an element of a row of one's own. -/
import Derived.Test.YtbhegmcbpolemaaDoorTE3
set_option linter.unusedVariables false
set_option linter.unusedSimpArgs false
namespace Go.Av
open Go Go.RowKit
section
variable {P:Program} {E:Env} {n:Nat} {ops:Array Oper} {rest:List Oper} {σ:St} {K:St → Prop} {ty:TypeId} {pos:String} {after:Array Edge} {x y:Operand}
theorem LG {T i ver len:Nat} (hy:D8 σ y = some (.row i ver len)) (h:B6 P E n ops (⟨none, .store T x y,ty,pos,after,none⟩ :: rest) (σ.frz i) K):B6 P E n ops (⟨none, .store T x y,ty,pos,after,none⟩ :: rest) σ K:=p4 (AK i) h
theorem Oo {fuel:Nat} {l:List Bool} {σ':St} (h:St.le E n σ σ') (k:F1 P E n ops fuel l σ' K):F1 P E n ops fuel l σ K:=fun a w hs=>k a w (h a w hs)
theorem Mx {fuel:Nat} {l:List Bool} {i ver len:Nat} (t:Nat) (ht:look σ.sl t = some (.row i ver len)) (k:F1 P E n ops fuel l (σ.frz i) K):F1 P E n ops fuel l σ K:=Oo (AK i) k
end
end Go.Av
