/- Chapter 2: the least level, coarse values. Chapter 2: values turned to another level, picks. -/
import Derived.Test.YtiphlhoclaogjabGreatDoorQB7
set_option linter.unusedVariables false
set_option linter.unnecessarySimpa false
set_option linter.unusedSimpArgs false
namespace Go.Proofs.YtiphlhoclaogjabGreatDoor
open Go Go.Av
attribute [local irreducible] D6 B8 D8 D7 DQ E0 E1 St.le B4 B9
set_option maxRecDepth 100000
def RD (s:C4) (c:C5):Nat → Nat
 | 0=>0
 | k + 1=>if l7 s c k = l7 s c (k + 1:Nat) then RD s c k else k + 1
def Lj (s:C4) (column level:Int):Int:=if level < 0 ∨ Nm s column < level then -1 else RD s (I7 s column) level.toNat
def U8 (s:C4) (c:C5) (level v:Int):Int:=if c.kind = 2 then (if P2 s c v = true then o0 (E4 s c).1 (E4 s c).2 v level else -1) else if v ≠ (-1099511627776) ∧ (v < -1000000 ∨ 1000000 < v) then -1 else if level = 0 then 0 else if v = (-1099511627776) then (-1099511627776) else E8 v (E6 c level)
def Dh (c:C5) (level v:Int):Int × Int × Bool :=
 if level = 0 then (c.low,c.high,decide (v = 0)) else if v < -2000000 ∨ 1000000 < v then (0,0,false) else (max v c.low,min (v + E6 c level - 1) c.high,decide (E8 v (E6 c level) = v) && decide (max v c.low ≤ min (v + E6 c level - 1) c.high))
def Hi (c:C5) (fr v to:Int):Int × Bool :=
 if 0 < fr ∧ v = (-1099511627776) then (if to = 0 then (0,c.opt) else (v,c.opt)) else
  if (Dh c fr v).2.2 = false then (0,false) else if to = 0 then (0,true) else if fr = 0 ∧ c.opt = true then (0,false) else
   (E8 (Dh c fr v).1 (E6 c to),decide (E8 (Dh c fr v).1 (E6 c to) = E8 (Dh c fr v).2.1 (E6 c to)))
def FX (nm:List UInt8) (cs:List Code) (fr v to:Int):List Nat → Int → Bool → Int × Bool
 | [],out,sm=>(out,sm)
 | leaf :: r,out,sm=>if o0 nm cs leaf fr = v then (if sm = true ∧ o0 nm cs leaf to ≠ out then (0,false) else FX nm cs fr v to r (o0 nm cs leaf to) true) else FX nm cs fr v to r out sm
def Hj (nm:List UInt8) (cs:List Code) (fr v to:Int):Int × Bool:=FX nm cs fr v to (O3 nm cs (F4 nm cs - 1)) 0 false
structure Pk where
 col:Int
 lev:Int
deriving DecidableEq
abbrev an (p:Pk):List AV:=[.i p.col, .i p.lev]
def ao (s:C4) (p:Pk):Int:=if PF s p.col < 0 then 7 else if p.lev < 0 ∨ PF s p.col < p.lev then 8 else 0
def VF (s:C4) (p:Pk):Int:=if H6 s = 0 then ao s p else H6 s
end Go.Proofs.YtiphlhoclaogjabGreatDoor
