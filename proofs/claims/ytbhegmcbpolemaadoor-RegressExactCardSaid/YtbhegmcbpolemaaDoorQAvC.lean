/- Stores of several cells into an element of a row of one's own. -/
import Derived.Test.YtbhegmcbpolemaaDoorQE3
set_option linter.unusedVariables false
set_option linter.unusedSimpArgs false
namespace Go.Av
open Go Go.RowKit
section
variable {P:Program} {E:Env} {n:Nat} {ops:Array Oper} {rest:List Oper} {σ:St} {K:St → Prop} {ty:TypeId} {pos:String} {after:Array Edge} {x y:Operand}
theorem LB {T i ver len:Nat} (hy:D2 σ y = some (.row i ver len)) (h:B3 P E n ops (⟨none, .store T x y,ty,pos,after,none⟩ :: rest) (σ.frz i) K):B3 P E n ops (⟨none, .store T x y,ty,pos,after,none⟩ :: rest) σ K:=EO (DY i) h
theorem Og {fuel:Nat} {l:List Bool} {σ':St} (h:St.le E n σ σ') (k:G0 P E n ops fuel l σ' K):G0 P E n ops fuel l σ K:=fun a w hs=>k a w (h a w hs)
theorem Mt {fuel:Nat} {l:List Bool} {i ver len:Nat} (t:Nat) (ht:look σ.sl t = some (.row i ver len)) (k:G0 P E n ops fuel l (σ.frz i) K):G0 P E n ops fuel l σ K:=Og (DY i) k
end
end Go.Av
