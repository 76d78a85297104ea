/- Draws: dimensions, terms, and all columns. Draws: expressions and programs, in plain terms. -/
import Derived.Test.YtjmbhlgocikfiaaGreatDoorQB13
import Derived.Test.YtjmbhlgocikfiaaGreatDoorQB12
import Derived.Test.YtjmbhlgocikfiaaGreatDoorQB5
import Derived.Test.YtjmbhlgocikfiaaGreatDoorQAvTy
import Derived.Test.YtjmbhlgocikfiaaGreatDoorQE3
import Derived.Test.YtjmbhlgocikfiaaGreatDoorQB8
import Derived.Test.YtjmbhlgocikfiaaGreatDoorQB4
import Derived.Test.YtjmbhlgocikfiaaGreatDoorQB7
import Derived.Test.YtjmbhlgocikfiaaGreatDoorQDr8
import Derived.Test.YtjmbhlgocikfiaaGreatDoorQF1
namespace Go.Proofs.YtjmbhlgocikfiaaGreatDoor
open Go Go.Av
attribute [local irreducible] AWp AOps AAny MAny DQ retQ retG St.le FCall GCall
set_option linter.unusedVariables false
set_option linter.unnecessarySimpa false
set_option linter.unusedSimpArgs false
set_option maxRecDepth 100000
structure PrD where
  l : List Stm
  names : List (List UInt8)
  a : Nat
abbrev xprT : Nat := 53
theorem nl_xpr (e : Xpr) {A B C D E : AV} (ha : NL A (.sl 1 (e.cols.map wA))) (hb : NL B (.sl 2 (e.dims.map pkL))) (hc : NL C (.sl 6 (e.cnd.kids.map cndL))) (hd : NL D (.sl 6 (e.evt.kids.map cndL))) (he : NL E (.sl 19 (e.kids.map xprL))) :
    NL (.agg [.i e.op, .i e.num, .str e.name, .i e.col, A, B, .i e.cnd.op, .i e.cnd.col, .i e.cnd.code, .i e.cnd.lo, .i e.cnd.hi, C, .i e.evt.op, .i e.evt.col, .i e.evt.code, .i e.evt.lo, .i e.evt.hi, D, E]) (xprA e) :=
  nl_agg ⟨.refl _, .refl _, .refl _, .refl _, ha, hb, .refl _, .refl _, .refl _, .refl _, .refl _, hc, .refl _, .refl _, .refl _, .refl _, .refl _, hd, he, trivial⟩
end Go.Proofs.YtjmbhlgocikfiaaGreatDoor
