/- Code lists that came in. -/
import Derived.Test.YtbhegmcbpolemaaDoorQAvTy
import Derived.Test.YtbhegmcbpolemaaDoorQE3
set_option linter.unusedVariables false
set_option linter.unnecessarySimpa false
set_option linter.unusedSimpArgs false
namespace Go.Proofs.YtbhegmcbpolemaaDoor
open Go Go.Av
set_option maxRecDepth 100000
theorem QB {a:AV} (h:k7 Tryd.prog 22 a):∃ l:List UInt8,l.length ≤ maxLen ∧ a = .sl 1 (l.map X9):=Kf Tryd.underlying22 Tryd.underlying5 (by kernel_rfl) h
end Go.Proofs.YtbhegmcbpolemaaDoor
