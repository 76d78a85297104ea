/- Chapter 2: the least level, coarse values. Chapter 2: values turned to another level, picks. -/
import Derived.Test.YtjmbhlgocikfiaaGreatDoorTB7
set_option linter.unusedVariables false
set_option linter.unnecessarySimpa false
set_option linter.unusedSimpArgs false
namespace Go.Proofs.YtjmbhlgocikfiaaGreatDoor
open Go Go.Av
attribute [local irreducible] AWp AOps AAny MAny DQ retQ retG St.le FCall GCall
set_option maxRecDepth 100000
def leastK (s:Sch) (c:Col):Nat → Nat
 | 0=>0
 | k + 1=>if blkC s c k = blkC s c (k + 1:Nat) then leastK s c k else k + 1
def leastS (s:Sch) (column level:Int):Int:=if level < 0 ∨ finestS s column < level then -1 else leastK s (colAt s column) level.toNat
theorem finS_bd {s:Sch} (h:schE s = 0) (column:Int):finS s column ≤ 61:=by
 unfold finS
 split
 ·omega
 ·have hc:s.cols[column.toNat]? = some s.cols[column.toNat]:=List.getElem?_eq_getElem (by omega)
  have hcr:=col_right h (by omega) hc
  rw [colAt_get hc]
  generalize s.cols[column.toNat] = c at hcr
  unfold finC
  rcases hcr with hcr | hcr
  ·rw [if_pos hcr.1]
   have hl:s.lists[c.lst.toNat]? = some (s.lists[c.lst.toNat]'(by omega)):=List.getElem?_eq_getElem (by omega)
   have hk:=(schE_parts h).2.2.1 _ (List.mem_of_getElem? hl)
   rw [lstOf_get hl]
   have h1:=(chk_good hk).2.2
   have:=levelsS_bd (nm:=(s.lists[c.lst.toNat]'(by omega)).1) (cs:=(s.lists[c.lst.toNat]'(by omega)).2) (by omega)
   omega
  ·rw [if_neg (by omega)];omega
def coaC (s:Sch) (c:Col) (level v:Int):Int:=if c.kind = 2 then (if holdB s c v = true then upS (lstOf s c).1 (lstOf s c).2 v level else -1) else if v ≠ (-1099511627776) ∧ (v < -1000000 ∨ 1000000 < v) then -1 else if level = 0 then 0 else if v = (-1099511627776) then (-1099511627776) else downS v (widthS c level)
def coaS (s:Sch) (column level v:Int):Int:=if level < 0 ∨ finestS s column < level then -1 else coaC s (colAt s column) level v
def spanS (c:Col) (level v:Int):Int × Int × Bool :=
 if level = 0 then (c.low,c.high,decide (v = 0)) else if v < -2000000 ∨ 1000000 < v then (0,0,false) else (max v c.low,min (v + widthS c level - 1) c.high,decide (downS v (widthS c level) = v) && decide (max v c.low ≤ min (v + widthS c level - 1) c.high))
def turnM (c:Col) (fr v to:Int):Int × Bool :=
 if 0 < fr ∧ v = (-1099511627776) then (if to = 0 then (0,c.opt) else (v,c.opt)) else
  if (spanS c fr v).2.2 = false then (0,false) else if to = 0 then (0,true) else if fr = 0 ∧ c.opt = true then (0,false) else
   (downS (spanS c fr v).1 (widthS c to),decide (downS (spanS c fr v).1 (widthS c to) = downS (spanS c fr v).2.1 (widthS c to)))
def turnK (nm:List UInt8) (cs:List Code) (fr v to:Int):List Nat → Int → Bool → Int × Bool
 | [],out,sm=>(out,sm)
 | leaf :: r,out,sm=>if upS nm cs leaf fr = v then (if sm = true ∧ upS nm cs leaf to ≠ out then (0,false) else turnK nm cs fr v to r (upS nm cs leaf to) true) else turnK nm cs fr v to r out sm
def turnC (nm:List UInt8) (cs:List Code) (fr v to:Int):Int × Bool:=turnK nm cs fr v to (atS nm cs (levelsS nm cs - 1)) 0 false
theorem atS_length (nm:List UInt8) (cs:List Code) (level:Int):(atS nm cs level).length ≤ cs.length:=by
 unfold atS
 split
 ·exact atK_le _ _ _
 ·simp
def turnedS (s:Sch) (column fr v to:Int):Int × Bool :=
 if fr < 0 ∨ finS s column < fr ∨ to < 0 ∨ finS s column < to then (0,false) else
  if (if (colAt s column).kind = 2 then turnC (lstOf s (colAt s column)).1 (lstOf s (colAt s column)).2 fr v to else turnM (colAt s column) fr v to).2 = true then ((if (colAt s column).kind = 2 then turnC (lstOf s (colAt s column)).1 (lstOf s (colAt s column)).2 fr v to else turnM (colAt s column) fr v to).1,true) else (0,false)
def turnS (s:Sch) (column fr v to:Int):Int × Bool:=if schE s = 0 then turnedS s column fr v to else (0,false)
structure Pk where
 col:Int
 lev:Int
deriving DecidableEq
abbrev pkL (p:Pk):List AV:=[.i p.col, .i p.lev]
abbrev pkA (p:Pk):AV:=.agg (pkL p)
def pkE (s:Sch) (p:Pk):Int:=if finS s p.col < 0 then 7 else if p.lev < 0 ∨ finS s p.col < p.lev then 8 else 0
set_option maxHeartbeats 4000000 in
theorem pick_call (s:Sch) (p:Pk) (hr:schE s = 0):FCall Tryz.prog 204 [sA s,pkA p] (.i (pkE s p)):=by
 have hfin:=finest_call s p.col hr
 refine fci Tryz.func204 23 fun hrd E h0=>?_
 clear hrd
 repeat' ((first | refine call_i hfin ?_ |refine aops_go ?_|refine S1 ?_|refine Z1 ?_|refine Z2 ?_|(refine And.intro ?_ ?_<;>intro h<;>try first|(exfalso;omega)|exact absurd rfl h)|refine Z3 ?_|refine Z4 ?_|intro el hel hbB|intro el hel|intro ex|refine Z5 ?_|(refine free_i ?_ ?_;exact ⟨by kernel_rfl,by decide⟩)|refine allI_c ?_ ?_|exact allI_n|refine allMP_c ?_ ?_|exact allMP_n|(refine many_step ?_ ?_ ?_;kernel_rfl;kernel_rfl)) <;> (try (conv=>whnf)))
 all_goals first
  | (refine ret_tmp rfl (congrArg AV.i ?_);rw [pkE,if_pos (by assumption)];done)
  | (refine ret_tmp rfl (congrArg AV.i ?_);rw [pkE,if_neg (by assumption),if_pos (by omega)];done)
  | (refine ret_tmp rfl (congrArg AV.i ?_);rw [pkE,if_neg (by assumption),if_neg (by omega)];done)
def pickE (s:Sch) (p:Pk):Int:=if schE s = 0 then pkE s p else schE s
set_option maxHeartbeats 4000000 in
theorem pickE_call (s:Sch) (p:Pk):FCall Tryz.prog 189 [sA s,pkA p] (.i (pickE s p)):=by
 have hpk:=fun hr=>pick_call s p hr
 refine fci Tryz.func189 14 fun hrd E h0=>?_
 clear hrd
 repeat' ((first | refine call_i (scheck_call s) ?_ | refine call_i (hpk (Classical.byContradiction (by assumption))) ?_ |refine aops_go ?_|refine S1 ?_|refine Z1 ?_|refine Z2 ?_|(refine And.intro ?_ ?_<;>intro h<;>try first|(exfalso;omega)|exact absurd rfl h)|refine Z3 ?_|refine Z4 ?_|intro el hel hbB|intro el hel|intro ex|refine Z5 ?_|(refine free_i ?_ ?_;exact ⟨by kernel_rfl,by decide⟩)|refine allI_c ?_ ?_|exact allI_n|refine allMP_c ?_ ?_|exact allMP_n|(refine many_step ?_ ?_ ?_;kernel_rfl;kernel_rfl)) <;> (try (conv=>whnf)))
 all_goals first
  | (refine ret_tmp rfl (congrArg AV.i ?_);rw [pickE,if_neg (by assumption)];done)
  | (refine ret_tmp rfl (congrArg AV.i ?_);rw [pickE,if_pos (Classical.byContradiction (by assumption))];done)
end Go.Proofs.YtjmbhlgocikfiaaGreatDoor
