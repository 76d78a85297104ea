/- Stores of several cells into an element of a row of one's own. -/
import Derived.Test.YtbhegmcbpolemaaDoorRE3
set_option linter.unusedVariables false
set_option linter.unusedSimpArgs false
namespace Go.Av
open Go Go.RowKit
section
variable {P:Program} {E:Env} {n:Nat} {ops:Array Oper} {rest:List Oper} {σ:St} {K:St → Prop} {ty:TypeId} {pos:String} {after:Array Edge} {x y:Operand}
theorem Pa {fuel:Nat} {l:List Bool} {σ':St} (h:St.le E n σ σ') (k:F6 P E n ops fuel l σ' K):F6 P E n ops fuel l σ K:=fun a w hs=>k a w (h a w hs)
theorem DU {fuel:Nat} {l:List Bool} {i ver len:Nat} (t:Nat) (ht:look σ.sl t = some (.row i ver len)) (k:F6 P E n ops fuel l (σ.frz i) K):F6 P E n ops fuel l σ K:=Pa (Gh i) k
end
end Go.Av
