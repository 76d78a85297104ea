/- Chapter 2: the least level, coarse values. Chapter 2: values turned to another level, picks. -/
import Derived.Test.YtiphlhoclaogjabGreatDoorQB7
set_option linter.unusedVariables false
set_option linter.unnecessarySimpa false
set_option linter.unusedSimpArgs false
namespace Go.Proofs.YtiphlhoclaogjabGreatDoor
open Go Go.Av
attribute [local irreducible] D1 B5 D5 D3 DQ D7 E0 St.le B3 B6
set_option maxRecDepth 100000
def RT (s:B8) (c:C1):Nat → Nat
 | 0=>0
 | k + 1=>if m7 s c k = m7 s c (k + 1:Nat) then RT s c k else k + 1
def Lu (s:B8) (column level:Int):Int:=if level < 0 ∨ OG s column < level then -1 else RT s (I0 s column) level.toNat
def U7 (s:B8) (c:C1) (level v:Int):Int:=if c.kind = 2 then (if M0 s c v = true then o4 (D2 s c).1 (D2 s c).2 v level else -1) else if v ≠ (-1099511627776) ∧ (v < -1000000 ∨ 1000000 < v) then -1 else if level = 0 then 0 else if v = (-1099511627776) then (-1099511627776) else E3 v (E1 c level)
def Dh (c:C1) (level v:Int):Int × Int × Bool :=
 if level = 0 then (c.low,c.high,decide (v = 0)) else if v < -2000000 ∨ 1000000 < v then (0,0,false) else (max v c.low,min (v + E1 c level - 1) c.high,decide (E3 v (E1 c level) = v) && decide (max v c.low ≤ min (v + E1 c level - 1) c.high))
def Hl (c:C1) (fr v to:Int):Int × Bool :=
 if 0 < fr ∧ v = (-1099511627776) then (if to = 0 then (0,c.opt) else (v,c.opt)) else
  if (Dh c fr v).2.2 = false then (0,false) else if to = 0 then (0,true) else if fr = 0 ∧ c.opt = true then (0,false) else
   (E3 (Dh c fr v).1 (E1 c to),decide (E3 (Dh c fr v).1 (E1 c to) = E3 (Dh c fr v).2.1 (E1 c to)))
def FR (nm:List UInt8) (cs:List Code) (fr v to:Int):List Nat → Int → Bool → Int × Bool
 | [],out,sm=>(out,sm)
 | leaf :: r,out,sm=>if o4 nm cs leaf fr = v then (if sm = true ∧ o4 nm cs leaf to ≠ out then (0,false) else FR nm cs fr v to r (o4 nm cs leaf to) true) else FR nm cs fr v to r out sm
def Hm (nm:List UInt8) (cs:List Code) (fr v to:Int):Int × Bool:=FR nm cs fr v to (N4 nm cs (E8 nm cs - 1)) 0 false
structure Pk where
 col:Int
 lev:Int
deriving DecidableEq
abbrev an (p:Pk):List AV:=[.i p.col, .i p.lev]
def ao (s:B8) (p:Pk):Int:=if PX s p.col < 0 then 7 else if p.lev < 0 ∨ PX s p.col < p.lev then 8 else 0
def Ve (s:B8) (p:Pk):Int:=if F8 s = 0 then ao s p else F8 s
end Go.Proofs.YtiphlhoclaogjabGreatDoor
