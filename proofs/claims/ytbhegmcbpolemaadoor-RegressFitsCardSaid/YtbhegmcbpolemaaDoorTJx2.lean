/- Fractions added and multiplied, and what becomes of a model: plain. -/
import Derived.Test.YtbhegmcbpolemaaDoorTJw4
import Derived.Test.YtbhegmcbpolemaaDoorTJr5
set_option linter.unusedVariables false
set_option linter.unnecessarySimpa false
set_option linter.unusedSimpArgs false
namespace Go.Proofs.YtbhegmcbpolemaaDoor
open Go Go.Av
attribute [local irreducible] E4 B6 F1 E7 DQ F6 F9 St.le B5 D4
set_option maxRecDepth 100000
def QL:Option (Int × Int) → Int × (Int × Int)
 | some r=>(0,r)
 | none=>(14,(0,0))
end Go.Proofs.YtbhegmcbpolemaaDoor
namespace Go.Proofs.YtbhegmcbpolemaaDoor
open Go Go.Av
attribute [local irreducible] E4 B6 F1 E7 DQ F6 F9 St.le B5 D4
set_option maxRecDepth 100000
def RU (x:Int × (Int × Int)):AV:=.tup [Nv x.2, .i x.1]
theorem PE (o:Option (Int × Int)):CD o = RU (QL o):=by cases o <;> rfl
theorem QM {P:Program} {t T u U i j sz sz2 τ τ2:Nat} {l m:List AV} {a b r:AV} {σ:St} [tv:G3 P T true sz] [tv2:G3 P U true sz2] (h:Go.Av.look σ.sl t = some (.ref i 0)) (hb:B2 σ.hp i = some (.bx τ l)) (hl:Nat.beq l.length sz = true) (na:NL (.agg (V6 σ.hp [] l)) a) (h2:Go.Av.look σ.sl u = some (.ref j 0)) (hb2:B2 σ.hp j = some (.bx τ2 m)) (hl2:Nat.beq m.length sz2 = true) (nb:NL (.agg (V6 σ.hp [] m)) b) (e:.tup [a,b] = r):F6 P #[.cell t T, .cell u U] r .ret σ :=
 S0 (rs:=[.cell t T, .cell u U]) (vs:=[a,b]) rfl ⟨⟨i,τ,l,sz,h,hb,tv,Nat.eq_of_beq_eq_true hl,na⟩,⟨j,τ2,m,sz2,h2,hb2,tv2,Nat.eq_of_beq_eq_true hl2,nb⟩,trivial⟩ e
end Go.Proofs.YtbhegmcbpolemaaDoor
