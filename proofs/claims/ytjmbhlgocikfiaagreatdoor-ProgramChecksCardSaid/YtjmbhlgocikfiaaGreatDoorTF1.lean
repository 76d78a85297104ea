/- Chapter 16: expressions and statements. Chapter 16: which expressions are right: the program's parts. Chapter 16: the program's check of expressions and programs. -/
import Derived.Test.YtjmbhlgocikfiaaGreatDoorTCe1
import Derived.Test.YtjmbhlgocikfiaaGreatDoorTC1
set_option linter.unusedVariables false
set_option linter.unnecessarySimpa false
set_option linter.unusedSimpArgs false
namespace Go.Proofs.YtjmbhlgocikfiaaGreatDoor
open Go Go.Av
attribute [local irreducible] AWp AOps AAny MAny DQ retQ retG St.le FCall GCall
set_option maxRecDepth 100000
inductive Xpr where
 | mk (op num:Int) (name:List UInt8) (col:Int) (cols:List Int) (dims:List Pk) (cnd evt:Cnd) (kids:List Xpr)
def Xpr.op:Xpr → Int | .mk o _ _ _ _ _ _ _ _=>o
def Xpr.num:Xpr → Int | .mk _ n _ _ _ _ _ _ _=>n
def Xpr.name:Xpr → List UInt8 | .mk _ _ nm _ _ _ _ _ _=>nm
def Xpr.col:Xpr → Int | .mk _ _ _ c _ _ _ _ _=>c
def Xpr.cols:Xpr → List Int | .mk _ _ _ _ cs _ _ _ _=>cs
def Xpr.dims:Xpr → List Pk | .mk _ _ _ _ _ ds _ _ _=>ds
def Xpr.cnd:Xpr → Cnd | .mk _ _ _ _ _ _ c _ _=>c
def Xpr.evt:Xpr → Cnd | .mk _ _ _ _ _ _ _ v _=>v
def Xpr.kids:Xpr → List Xpr | .mk _ _ _ _ _ _ _ _ ks=>ks
mutual
def xprL:Xpr → List AV
 | .mk o n nm c cs ds cd ev ks=>[.i o, .i n, .str nm, .i c, .sl 1 (cs.map wA), .sl 2 (ds.map pkL), .i cd.op, .i cd.col, .i cd.code, .i cd.lo, .i cd.hi, .sl 6 (cd.kids.map cndL), .i ev.op, .i ev.col, .i ev.code, .i ev.lo, .i ev.hi, .sl 6 (ev.kids.map cndL), .sl 19 (xprLs ks)]
def xprLs:List Xpr → List (List AV)
 | []=>[]
 | x :: r=>xprL x :: xprLs r
end
theorem xprLs_eq:∀ ks,xprLs ks = ks.map xprL
 | []=>rfl
 | x :: r=>by rw [xprLs,xprLs_eq r];rfl
def xprX (e:Xpr):List AV:=[.i e.op, .i e.num, .str e.name, .i e.col, .sl 1 (e.cols.map wA), .sl 2 (e.dims.map pkL), .i e.cnd.op, .i e.cnd.col, .i e.cnd.code, .i e.cnd.lo, .i e.cnd.hi, .sl 6 (e.cnd.kids.map cndL), .i e.evt.op, .i e.evt.col, .i e.evt.code, .i e.evt.lo, .i e.evt.hi, .sl 6 (e.evt.kids.map cndL), .sl 19 (e.kids.map xprL)]
theorem xprX_eq (e:Xpr):xprL e = xprX e:=by
 cases e
 rw [xprL,xprLs_eq];rfl
theorem map_xpr (ks:List Xpr):ks.map xprL = ks.map xprX:=List.map_congr_left fun e _=>xprX_eq e
abbrev xprA (e:Xpr):AV:=.agg (xprX e)
abbrev xprY (e:Xpr):List AV:=[.i e.op, .i e.num, .str e.name, .i e.col, .sl 1 (e.cols.map wA), .sl 2 (e.dims.map pkL), .i e.cnd.op, .i e.cnd.col, .i e.cnd.code, .i e.cnd.lo, .i e.cnd.hi, .sl 6 (e.cnd.kids.map cndL), .i e.evt.op, .i e.evt.col, .i e.evt.code, .i e.evt.lo, .i e.evt.hi, .sl 6 (e.evt.kids.map cndL), .sl 19 (e.kids.map xprX)]
theorem xprX_Y (e:Xpr):xprX e = xprY e:=by unfold xprX;rw [map_xpr]
theorem xprA_eq (e:Xpr):xprA e = .agg (xprY e):=by rw [xprA,xprX_Y]
theorem sizeOf_xkid {e k:Xpr} (h:k ∈ e.kids):SizeOf.sizeOf k < SizeOf.sizeOf e:=by
 cases e with
 | mk o n nm c cs ds cd ev ks =>
  have:=List.sizeOf_lt_of_mem (show _ ∈ ks from h)
  simp only [Xpr.mk.sizeOf_spec]
  omega
theorem xpr_ind {p:Xpr → Prop} (h:∀ e,(∀ k ∈ e.kids,p k) → p e) (e:Xpr):p e :=
 h e fun k _=>xpr_ind h k
termination_by SizeOf.sizeOf e
decreasing_by exact sizeOf_xkid (by assumption)
mutual
def treeX:Xpr → Cnd
 | .mk _ _ _ _ _ _ _ _ ks=>.mk 0 0 0 0 0 (treeXs ks)
def treeXs:List Xpr → List Cnd
 | []=>[]
 | x :: r=>treeX x :: treeXs r
end
theorem treeXs_eq:∀ ks,treeXs ks = ks.map treeX
 | []=>rfl
 | x :: r=>by rw [treeXs,treeXs_eq r];rfl
theorem tree_kids (e:Xpr):(treeX e).kids = e.kids.map treeX:=by
 cases e
 rw [treeX,treeXs_eq];rfl
theorem tree_get {l:List Xpr} {k:Nat} {x:Xpr} (h:l[k]? = some x):(l.map treeX)[k]? = some (treeX x):=by rw [List.getElem?_map,h];rfl
structure Stm where
 name:List UInt8
 out:Bool
 x:Xpr
abbrev stmL (t:Stm):List AV:=.str t.name :: .b t.out :: xprX t.x
abbrev stmA (t:Stm):AV:=.agg (stmL t)
abbrev empP (c:Cnd):Prop:=c.op = 0 ∧ c.col = 0 ∧ c.code = 0 ∧ c.lo = 0 ∧ c.hi = 0 ∧ c.kids.length = 0
abbrev usNum (op:Int):Prop:=op = 1 ∨ op = 13
abbrev usName (op:Int):Prop:=op = 2
abbrev usCol (op:Int):Prop:=4 ≤ op ∧ op ≤ 5 ∨ 10 ≤ op ∧ op ≤ 14
abbrev usCols (op:Int):Prop:=op = 11
abbrev usDims (op:Int):Prop:=op = 10
abbrev usCnd (op:Int):Prop:=3 ≤ op ∧ op ≤ 5 ∨ 10 ≤ op ∧ op ≤ 14
abbrev usEvt (op:Int):Prop:=op = 12
abbrev usesL (op:Int):List AV:=[.b (decide (usNum op)), .b (decide (usName op)), .b (decide (usCol op)), .b (decide (usCols op)), .b (decide (usDims op)), .b (decide (usCnd op)), .b (decide (usEvt op))]
abbrev pairP (op:Int):Prop:=6 ≤ op ∧ op ≤ 9
abbrev unuX (e:Xpr):Prop:=(usNum e.op ∨ e.num = 0) ∧ (usName e.op ∨ e.name.length = 0) ∧ (usCol e.op ∨ e.col = 0) ∧ (usCols e.op ∨ e.cols.length = 0) ∧ (usDims e.op ∨ e.dims.length = 0) ∧ (usCnd e.op ∨ empP e.cnd) ∧ (usEvt e.op ∨ empP e.evt) ∧ (pairP e.op ∨ e.kids.length = 0)
def dimE (s:Sch) (l:List Pk) (i:Nat) (d:Pk):Int:=if pickE s d ≠ 0 then pickE s d else if (colAt s d.col).kind ≠ 2 then 7 else if ((l.take i).any fun x=>decide (x.col = d.col)) = true then 10 else 0
def dimsE (s:Sch) (l:List Pk):Int:=if l.length < 1 ∨ 3 < l.length then 1 else firstE (dimE s l) 0 l
def trmE (s:Sch) (m:Int) (l:List Int) (i:Nat) (c:Int):Int:=if isB s c 3 = false then 7 else if c = m ∨ ((l.take i).any fun x=>decide (x = c)) = true then 10 else 0
def trmsE (s:Sch) (m:Int) (l:List Int):Int:=if l.length < 1 ∨ 3 < l.length then 1 else firstE (trmE s m l) 0 l
def parB (s:Sch) (e:Xpr):Bool :=
 if e.op = 1 then decide (-1099511627776 ≤ e.num ∧ e.num ≤ 1099511627776) else if e.op = 2 then nameB e.name
 else if e.op = 4 ∨ e.op = 5 ∨ e.op = 14 then isB s e.col 3
 else if e.op = 10 then decide (dimsE s e.dims = 0) && (decide (e.col = -1) || isB s e.col 3)
 else if e.op = 11 then isB s e.col 3 && decide (trmsE s e.col e.cols = 0)
 else if e.op = 12 then isB s e.col 3 && decide (0 ≤ (colAt s e.col).low)
 else if e.op = 13 then isB s e.col 3 && (colAt s e.col).widths.any fun x=>decide (x = e.num)
 else true
def oneX (s:Sch) (e:Xpr):Bool:=decide (1 ≤ e.op ∧ e.op ≤ 14) && decide (unuX e) && parB s e && (decide (¬ usCnd e.op) || decide (cndE s e.cnd = 0)) && (decide (¬ usEvt e.op) || decide (cndE s e.evt = 0)) && (decide (¬ pairP e.op) || decide (e.kids.length = 2))
abbrev numP (op:Int):Prop:=1 ≤ op ∧ op ≤ 9
mutual
def rigS (s:Sch):Xpr → Bool
 | .mk o n nm c cs ds cd ev ks=>oneX s (.mk o n nm c cs ds cd ev ks) && !(rigL s ks)
def rigL (s:Sch):List Xpr → Bool
 | []=>false
 | x :: r=>(!decide (numP x.op) || !rigS s x) || rigL s r
end
abbrev badK (s:Sch) (k:Xpr):Bool:=!decide (numP k.op) || !rigS s k
theorem rigL_eq (s:Sch):∀ l,rigL s l = l.any (badK s)
 | []=>rfl
 | x :: r=>by rw [rigL,rigL_eq s r];rfl
theorem rigS_eq (s:Sch) (e:Xpr):rigS s e = (oneX s e && !(e.kids.any (badK s))):=by
 cases e
 rw [rigS,rigL_eq];rfl
def rigX (s:Sch) (e:Xpr):Bool:=decide (schE s = 0) && rigS s e
mutual
def namS (g:List UInt8 → Bool):Xpr → Bool
 | .mk o n nm c cs ds cd ev ks=>!(decide (o = 2) && !g nm) && !(namL g ks)
def namL (g:List UInt8 → Bool):List Xpr → Bool
 | []=>false
 | x :: r=>(!namS g x) || namL g r
end
theorem namL_eq (g:List UInt8 → Bool):∀ l,namL g l = l.any fun k=>!namS g k
 | []=>rfl
 | x :: r=>by rw [namL,namL_eq g r];rfl
theorem namS_eq (g:List UInt8 → Bool) (e:Xpr):namS g e = (!(decide (e.op = 2) && !g e.name) && !(e.kids.any fun k=>!namS g k)):=by
 cases e
 rw [namS,namL_eq];rfl
abbrev knoB (l:List Stm) (nm:List UInt8):Bool:=l.any fun y=>decide (y.name = nm)
def stmE (s:Sch) (before:List Stm) (t:Stm):Int :=
 if nameB t.name = false then 3 else if knoB before t.name = true then 10 else if 60 < totS (treeX t.x) then 1 else if 10 < depS (treeX t.x) then 22 else if rigX s t.x = false then 11 else if namS (knoB before) t.x = false then 24 else 0
def proE (s:Sch) (l:List Stm):Nat → List Stm → Int × Int
 | k,[]=>(k,0)
 | k,t :: r=>if stmE s (l.take k) t = 0 then proE s l (k + 1) r else (k,stmE s (l.take k) t)
def proS (s:Sch) (l:List Stm):Int × Int:=if schE s = 0 then (if 30 < l.length then (-1,1) else proE s l 0 l) else (-1,schE s)
end Go.Proofs.YtjmbhlgocikfiaaGreatDoor
namespace Go.Proofs.YtjmbhlgocikfiaaGreatDoor
open Go Go.Av
attribute [local irreducible] AWp AOps AAny MAny DQ retQ retG St.le FCall GCall
set_option maxRecDepth 100000
set_option maxHeartbeats 4000000 in
theorem empty_call (c:Cnd):FCall Tryz.prog 169 [cndA c] (.b (decide (empP c))):=by
 rw [cndA_eq]
 refine fci Tryz.func169 32 fun hrd E h0=>?_
 clear hrd
 repeat' ((first|refine aops_go ?_|refine S1 ?_|refine Z1 ?_|refine Z2 ?_|(refine And.intro ?_ ?_<;>intro h<;>try first|(exfalso;omega)|exact absurd rfl h)|refine Z3 ?_|refine Z4 ?_|intro el hel hbB|intro el hel|intro ex|refine Z5 ?_|(refine free_i ?_ ?_;exact ⟨by kernel_rfl,by decide⟩)|refine allI_c ?_ ?_|exact allI_n|refine allMP_c ?_ ?_|exact allMP_n|(refine many_step ?_ ?_ ?_;kernel_rfl;kernel_rfl)) <;> (try (conv=>whnf)))
 all_goals first
  | exact ret_tmp rfl (congrArg AV.b (by rw [decide_eq_true (by omega)]))
  | exact ret_tmp rfl (congrArg AV.b (by rw [decide_eq_false (by omega)]))
  | exact ret_tmp rfl (congrArg AV.b (by rw [decide_eq_decide];omega))
set_option maxHeartbeats 4000000 in
theorem pmea_call (s:Sch) (col:Int):FCall Tryz.prog 170 [sA s, .i col] (.b (isB s col 3)):=by
 refine fci Tryz.func170 23 fun hrd E h0=>?_
 clear hrd
 repeat' ((first | (refine draw_q ?_ ?_;kernel_rfl) |refine aops_go ?_|refine S1 ?_|refine Z1 ?_|refine Z2 ?_|(refine And.intro ?_ ?_<;>intro h<;>try first|(exfalso;omega)|exact absurd rfl h)|refine Z3 ?_|refine Z4 ?_|intro el hel hbB|intro el hel|intro ex|refine Z5 ?_|(refine free_i ?_ ?_;exact ⟨by kernel_rfl,by decide⟩)|refine allI_c ?_ ?_|exact allI_n|refine allMP_c ?_ ?_|exact allMP_n|(refine many_step ?_ ?_ ?_;kernel_rfl;kernel_rfl)) <;> (try (conv=>whnf)))
 all_goals first
  | exact ret_tmp rfl (congrArg AV.b (by unfold isB;rw [decide_eq_false (by omega)]))
  | exact ret_tmp rfl (congrArg AV.b (by unfold isB;rw [decide_eq_decide,colAt_get hel];omega))
set_option maxHeartbeats 4000000 in
theorem number16_call (op:Int):FCall Tryz.prog 140 [.i op] (.b (decide (numP op))):=by
 refine fci Tryz.func140 9 fun hrd E h0=>?_
 clear hrd
 repeat' ((first|refine aops_go ?_|refine S1 ?_|refine Z1 ?_|refine Z2 ?_|(refine And.intro ?_ ?_<;>intro h<;>try first|(exfalso;omega)|exact absurd rfl h)|refine Z3 ?_|refine Z4 ?_|intro el hel hbB|intro el hel|intro ex|refine Z5 ?_|(refine free_i ?_ ?_;exact ⟨by kernel_rfl,by decide⟩)|refine allI_c ?_ ?_|exact allI_n|refine allMP_c ?_ ?_|exact allMP_n|(refine many_step ?_ ?_ ?_;kernel_rfl;kernel_rfl)) <;> (try (conv=>whnf)))
 all_goals first
  | exact ret_tmp rfl (congrArg AV.b (by rw [decide_eq_true (by omega)]))
  | exact ret_tmp rfl (congrArg AV.b (by rw [decide_eq_false (by omega)]))
  | exact ret_tmp rfl (congrArg AV.b (by rw [decide_eq_decide];omega))
set_option maxHeartbeats 4000000 in
theorem pair16_call (op:Int):FCall Tryz.prog 71 [.i op] (.b (decide (pairP op))):=by
 refine fci Tryz.func71 9 fun hrd E h0=>?_
 clear hrd
 repeat' ((first|refine aops_go ?_|refine S1 ?_|refine Z1 ?_|refine Z2 ?_|(refine And.intro ?_ ?_<;>intro h<;>try first|(exfalso;omega)|exact absurd rfl h)|refine Z3 ?_|refine Z4 ?_|intro el hel hbB|intro el hel|intro ex|refine Z5 ?_|(refine free_i ?_ ?_;exact ⟨by kernel_rfl,by decide⟩)|refine allI_c ?_ ?_|exact allI_n|refine allMP_c ?_ ?_|exact allMP_n|(refine many_step ?_ ?_ ?_;kernel_rfl;kernel_rfl)) <;> (try (conv=>whnf)))
 all_goals first
  | exact ret_tmp rfl (congrArg AV.b (by rw [decide_eq_true (by omega)]))
  | exact ret_tmp rfl (congrArg AV.b (by rw [decide_eq_false (by omega)]))
  | exact ret_tmp rfl (congrArg AV.b (by rw [decide_eq_decide];omega))
theorem uses_no {op:Int} (h:¬ (1 ≤ op ∧ op ≤ 14)):(AV.tup [.agg (usesL op), .b (decide (1 ≤ op ∧ op ≤ 14))]) = .tup [.agg [.b false, .b false, .b false, .b false, .b false, .b false, .b false], .b false]:=by
 unfold usesL
 rw [decide_eq_false (by omega),decide_eq_false (by omega),decide_eq_false (by omega),decide_eq_false (by omega),decide_eq_false (by omega),decide_eq_false (by omega),decide_eq_false (by omega),decide_eq_false (by omega)]
set_option maxHeartbeats 4000000 in
theorem fields_call (op:Int):FCall Tryz.prog 135 [.i op] (.tup [.agg (usesL op), .b (decide (1 ≤ op ∧ op ≤ 14))]):=by
 refine fci Tryz.func135 38 fun hrd E h0=>?_
 clear hrd
 repeat' ((first|refine aops_go ?_|refine S1 ?_|refine Z1 ?_|refine Z2 ?_|(refine And.intro ?_ ?_<;>intro h<;>try first|(exfalso;omega)|exact absurd rfl h)|refine Z3 ?_|refine Z4 ?_|intro el hel hbB|intro el hel|intro ex|refine Z5 ?_|(refine free_i ?_ ?_;exact ⟨by kernel_rfl,by decide⟩)|refine allI_c ?_ ?_|exact allI_n|refine allMP_c ?_ ?_|exact allMP_n|(refine many_step ?_ ?_ ?_;kernel_rfl;kernel_rfl)) <;> (try (conv=>whnf)))
 all_goals first
  | (subst_vars;exact ret_ct rfl rfl rfl (.refl _) rfl (.refl _) rfl)
  | (rw [uses_no (by omega)];exact ret_ct rfl rfl rfl (.refl _) rfl (.refl _) rfl)
set_option maxHeartbeats 8000000 in
theorem unusedX_call (e:Xpr):FCall Tryz.prog 136 [xprA e, .agg (usesL e.op)] (.b (decide (unuX e))):=by
 have h1:=empty_call e.cnd
 have h2:=empty_call e.evt
 have h3:=pair16_call e.op
 rw [xprA_eq]
 refine fci Tryz.func136 79 fun hrd E h0=>?_
 clear hrd
 repeat' ((first | refine call_i h1 ?_ | refine call_i h2 ?_ | refine call_i h3 ?_ |refine aops_go ?_|refine S1 ?_|refine Z1 ?_|refine Z2 ?_|(refine And.intro ?_ ?_<;>intro h<;>try first|(exfalso;omega)|exact absurd rfl h)|refine Z3 ?_|refine Z4 ?_|intro el hel hbB|intro el hel|intro ex|refine Z5 ?_|(refine free_i ?_ ?_;exact ⟨by kernel_rfl,by decide⟩)|refine allI_c ?_ ?_|exact allI_n|refine allMP_c ?_ ?_|exact allMP_n|(refine many_step ?_ ?_ ?_;kernel_rfl;kernel_rfl)) <;> (try (conv=>whnf)))
 all_goals first
  | exact ret_tmp rfl (congrArg AV.b (decide_eq_true (by (clear h1 h2 h3;simp only [usNum,usName,usCol,usCols,usDims,usCnd,usEvt,pairP,unuX,empP, ← List.length_eq_zero_iff] at *;omega))).symm)
  | exact ret_tmp rfl (congrArg AV.b (decide_eq_false (by (clear h1 h2 h3;simp only [usNum,usName,usCol,usCols,usDims,usCnd,usEvt,pairP,unuX,empP, ← List.length_eq_zero_iff] at *;omega))).symm)
  | exact ret_tmp rfl (congrArg AV.b (by rw [decide_eq_decide];(clear h1 h2 h3;simp only [usNum,usName,usCol,usCols,usDims,usCnd,usEvt,pairP,unuX,empP, ← List.length_eq_zero_iff] at *;omega)))
set_option maxHeartbeats 4000000 in
theorem dims1_call (x d:Pk):FCall Tryz.prog 191 [pkA x, .iptr (pkL d)] (.b (decide (x.col = d.col))):=by
 refine fci Tryz.func191 9 fun hrd E h0=>?_
 clear hrd
 repeat' ((first | (refine draw_q ?_ ?_;kernel_rfl) |refine aops_go ?_|refine S1 ?_|refine Z1 ?_|refine Z2 ?_|(refine And.intro ?_ ?_<;>intro h<;>try first|(exfalso;omega)|exact absurd rfl h)|refine Z3 ?_|refine Z4 ?_|intro el hel hbB|intro el hel|intro ex|refine Z5 ?_|(refine free_i ?_ ?_;exact ⟨by kernel_rfl,by decide⟩)|refine allI_c ?_ ?_|exact allI_n|refine allMP_c ?_ ?_|exact allMP_n|(refine many_step ?_ ?_ ?_;kernel_rfl;kernel_rfl)) <;> (try (conv=>whnf)))
 all_goals first
  | exact ret_tmp rfl rfl
theorem pick_col {s:Sch} {p:Pk} (h:pickE s p = 0):∃ c,0 ≤ p.col ∧ s.cols[p.col.toNat]? = some c:=by
 unfold pickE pkE finS at h
 by_cases hc:p.col < 1 ∨ (s.cols.length:Int) ≤ p.col
 ·rw [if_pos hc] at h
  split at h
  ·rw [if_pos (show (-1:Int) < 0 by omega)] at h
   omega
  ·exact absurd h (by assumption)
 ·exact ⟨_,by omega,List.getElem?_eq_getElem (by omega)⟩
theorem dimsE_no {s:Sch} {l:List Pk} (h:¬ firstE (dimE s l) 0 l = 0):¬ dimsE s l = 0:=by
 unfold dimsE
 split
 ·omega
 ·exact h
theorem pk_any' (l:List Pk) (k:Nat) (d:Pk):FCall Tryz.prog 190 [.sl 2 ((l.map pkL).take k), .fn 191 [.iptr (pkL d)]] (.b ((l.take k).any fun x=>decide (x.col = d.col))):=by
 have h:=pk_any (l.take k) 191 [.iptr (pkL d)] (fun x=>decide (x.col = d.col)) (fun x _=>dims1_call x d)
 rw [List.map_take] at h
 exact h
theorem dims_end {s:Sch} {l:List Pk} {k:Nat} (h:ErrAt (dimE s l) l k) (hk:¬ (k:Int) < l.length):decide (1 ≤ (l.length:Int) ∧ (l.length:Int) ≤ 3) = decide (dimsE s l = 0):=by
 unfold dimsE
 rw [h.done hk,decide_eq_decide]
 split <;> omega
set_option maxHeartbeats 4000000 in
theorem dims_call (s:Sch) (l:List Pk):FCall Tryz.prog 171 [sA s, .sl 2 (l.map pkL)] (.b (decide (dimsE s l = 0))):=by
 have hp:=fun d=>pickE_call s d
 have hany:=fun k d=>pk_any' l k d
 refine fci Tryz.func171 42 fun hrd E h0=>?_
 have hlen:l.length ≤ 9223372036854775807:=by
  have:=(hrd (.sl 2 (l.map pkL)) (by simp)).sl
  simpa using this
 clear hrd
 repeat' ((first|refine aops_go ?_|refine S1 ?_|refine Z1 ?_|refine Z2 ?_|(refine And.intro ?_ ?_<;>intro h<;>try first|(exfalso;omega)|exact absurd rfl h)|refine Z3 ?_|refine Z4 ?_|intro el hel hbB|intro el hel|intro ex|refine Z5 ?_|(refine free_i ?_ ?_;exact ⟨by kernel_rfl,by decide⟩)|refine allI_c ?_ ?_|exact allI_n|refine allMP_c ?_ ?_|exact allMP_n|(refine many_step ?_ ?_ ?_;kernel_rfl;kernel_rfl)) <;> (try (conv=>whnf)))
 refine loop_i (ι:=Nat) (fun k=>⟨[(1, .sl 2 (l.map pkL)),(2, .ref 0 0),(7, .sl 2 (l.map pkL)),(8, .i l.length),(9, .i k)],1,[(0,some (.box (sL s)))]⟩) (fun k=>ErrAt (dimE s l) l k) (fun k=>l.length - k) 0 (ErrAt.zero _ _)
  (le_of h0 rfl ⟨rfl,rfl,rfl,rfl,rfl,trivial⟩ ⟨rfl,trivial⟩ rfl rfl rfl) (fun k hI=>?_)
 have hkl:=hI.1
 by_cases hlt:k < l.length
 ·obtain ⟨d,hd⟩:∃ d,l[k]? = some d:=⟨_,List.getElem?_eq_getElem hlt⟩
  have h1:=hp d
  have h2:=hany k d
  have hno:∀ e:Int,dimE s l k d = e → ¬ e = 0 → false = decide (dimsE s l = 0):=fun e h3 h4=>(decide_eq_false (dimsE_no (by rw [← hI.hit hd (by rw [h3];exact h4),h3];exact h4))).symm
  have hye:dimE s l k d = 0 → ErrAt (dimE s l) l (k + 1):=fun h=>hI.step hd h
  unfold dimE at hno hye
  by_cases hpe:pickE s d = 0
  ·obtain ⟨c,hc0,hc⟩:=pick_col hpe
   rw [colAt_get hc] at hno hye
   rw [hpe] at h1
   generalize ((l.take k).any fun x=>decide (x.col = d.col)) = u at *
   repeat' ((first | (refine each_knownm (x:=d) hd (by omega) ?_) | (refine each_knownm (x:=c) hc (by omega) ?_) | refine call_i h1 ?_ | refine ncall_frz 1 ?_ | refine call_i h2 ?_ |refine aops_go ?_|refine S1 ?_|refine Z1 ?_|refine Z2 ?_|(refine And.intro ?_ ?_<;>intro h<;>try first|(exfalso;omega)|exact absurd rfl h)|refine Z3 ?_|refine Z4 ?_|intro el hel hbB|intro el hel|intro ex|refine Z5 ?_|(refine free_i ?_ ?_;exact ⟨by kernel_rfl,by decide⟩)|refine allI_c ?_ ?_|exact allI_n|refine allMP_c ?_ ?_|exact allMP_n|(refine many_step ?_ ?_ ?_;kernel_rfl;kernel_rfl)) <;> (try (conv=>whnf)))
   all_goals first
    | exact ret_tmp rfl (congrArg AV.b (hno 7 (by rw [if_neg (by omega),if_pos (by assumption)]) (by omega)))
    | exact ret_tmp rfl (congrArg AV.b (hno 10 (by rw [if_neg (by omega),if_neg (by assumption),if_pos (by assumption)]) (by omega)))
    | exact ⟨k + 1,hye (by rw [if_neg (by omega),if_neg (by assumption),if_neg (by simp [*])]),by omega,le_of h0 rfl ⟨rfl,rfl,rfl,rfl,rfl,trivial⟩ ⟨rfl,trivial⟩ rfl rfl rfl⟩
    | (exfalso;omega)
  ·repeat' ((first | (refine each_knownm (x:=d) hd (by omega) ?_) | refine call_i h1 ?_ | refine ncall_frz 1 ?_ | refine call_i h2 ?_ |refine aops_go ?_|refine S1 ?_|refine Z1 ?_|refine Z2 ?_|(refine And.intro ?_ ?_<;>intro h<;>try first|(exfalso;omega)|exact absurd rfl h)|refine Z3 ?_|refine Z4 ?_|intro el hel hbB|intro el hel|intro ex|refine Z5 ?_|(refine free_i ?_ ?_;exact ⟨by kernel_rfl,by decide⟩)|refine allI_c ?_ ?_|exact allI_n|refine allMP_c ?_ ?_|exact allMP_n|(refine many_step ?_ ?_ ?_;kernel_rfl;kernel_rfl)) <;> (try (conv=>whnf)))
   all_goals first
    | exact ret_tmp rfl (congrArg AV.b (hno (pickE s d) (by rw [if_pos (by omega)]) hpe))
    | (exfalso;omega)
 ·repeat' ((first|refine aops_go ?_|refine S1 ?_|refine Z1 ?_|refine Z2 ?_|(refine And.intro ?_ ?_<;>intro h<;>try first|(exfalso;omega)|exact absurd rfl h)|refine Z3 ?_|refine Z4 ?_|intro el hel hbB|intro el hel|intro ex|refine Z5 ?_|(refine free_i ?_ ?_;exact ⟨by kernel_rfl,by decide⟩)|refine allI_c ?_ ?_|exact allI_n|refine allMP_c ?_ ?_|exact allMP_n|(refine many_step ?_ ?_ ?_;kernel_rfl;kernel_rfl)) <;> (try (conv=>whnf)))
  all_goals first
   | (exfalso;omega)
   | (refine ret_tmp rfl (congrArg AV.b ?_);rw [← dims_end hI (by omega)];first | (rw [decide_eq_decide];omega) | (rw [eq_comm,decide_eq_false_iff_not];omega))
theorem index_ints (l:List Int) (v:Int):FCall Tryz.prog 192 [.sl 1 (l.map wA), .i v] (.i (idxP (fun x=>decide (x = v)) l 0)):=by
 refine fci Tryz.func192 19 fun hrd E h0=>?_
 have hlen:l.length ≤ 9223372036854775807:=by
  have:=(hrd (.sl 1 (l.map wA)) (by simp)).sl
  simpa using this
 clear hrd
 repeat' ((first|refine aops_go ?_|refine S1 ?_|refine Z1 ?_|refine Z2 ?_|(refine And.intro ?_ ?_<;>intro h<;>try first|(exfalso;omega)|exact absurd rfl h)|refine Z3 ?_|refine Z4 ?_|intro el hel hbB|intro el hel|intro ex|refine Z5 ?_|(refine free_i ?_ ?_;exact ⟨by kernel_rfl,by decide⟩)|refine allI_c ?_ ?_|exact allI_n|refine allMP_c ?_ ?_|exact allMP_n|(refine many_step ?_ ?_ ?_;kernel_rfl;kernel_rfl)) <;> (try (conv=>whnf)))
 refine loop_i (ι:=Nat) (fun k=>⟨[(0, .sl 1 (l.map wA)),(1, .i v),(7, .i l.length),(8, .i k)],0,[]⟩) (fun k=>k ≤ l.length ∧ idxP (fun x=>decide (x = v)) l 0 = idxP (fun x=>decide (x = v)) (l.drop k) k) (fun k=>l.length - k) 0 ⟨Nat.zero_le _,rfl⟩
  (le_of h0 rfl ⟨rfl,rfl,rfl,rfl,trivial⟩ trivial rfl rfl rfl) (fun k hI=>?_)
 obtain ⟨hk,hI⟩:=hI
 repeat' ((first | (refine draw_q ?_ ?_;kernel_rfl) |refine aops_go ?_|refine S1 ?_|refine Z1 ?_|refine Z2 ?_|(refine And.intro ?_ ?_<;>intro h<;>try first|(exfalso;omega)|exact absurd rfl h)|refine Z3 ?_|refine Z4 ?_|intro el hel hbB|intro el hel|intro ex|refine Z5 ?_|(refine free_i ?_ ?_;exact ⟨by kernel_rfl,by decide⟩)|refine allI_c ?_ ?_|exact allI_n|refine allMP_c ?_ ?_|exact allMP_n|(refine many_step ?_ ?_ ?_;kernel_rfl;kernel_rfl)) <;> (try (conv=>whnf)))
 all_goals first
  | exact ⟨k + 1,⟨by omega,by rw [hI,dropc hel,idxP,if_neg (by rw [decide_eq_true_iff];omega)];rfl⟩,by omega,le_of h0 rfl ⟨rfl,rfl,rfl,rfl,trivial⟩ trivial rfl rfl rfl⟩
  | exact ret_tmp rfl (congrArg AV.i (by rw [hI,dropc hel,idxP,if_pos (by rw [decide_eq_true_iff];omega)]))
  | exact ret_tmp rfl (congrArg AV.i (by rw [hI,show k = l.length by omega,List.drop_length];rfl))
theorem contains_ints (l:List Int) (v:Int):FCall Tryz.prog 173 [.sl 1 (l.map wA), .i v] (.b (l.any fun x=>decide (x = v))):=by
 have h:=index_ints l v
 refine fci Tryz.func173 9 fun hrd E h0=>?_
 clear hrd
 repeat' ((first | refine call_i h ?_ |refine aops_go ?_|refine S1 ?_|refine Z1 ?_|refine Z2 ?_|(refine And.intro ?_ ?_<;>intro h<;>try first|(exfalso;omega)|exact absurd rfl h)|refine Z3 ?_|refine Z4 ?_|intro el hel hbB|intro el hel|intro ex|refine Z5 ?_|(refine free_i ?_ ?_;exact ⟨by kernel_rfl,by decide⟩)|refine allI_c ?_ ?_|exact allI_n|refine allMP_c ?_ ?_|exact allMP_n|(refine many_step ?_ ?_ ?_;kernel_rfl;kernel_rfl)) <;> (try (conv=>whnf)))
 all_goals first
  | exact ret_tmp rfl (congrArg AV.b (idxP_any _ l 0 (by omega)))
theorem trms_no {s:Sch} {m:Int} {l:List Int} (h:¬ firstE (trmE s m l) 0 l = 0):¬ trmsE s m l = 0:=by
 unfold trmsE
 split
 ·omega
 ·exact h
theorem trms_end {s:Sch} {m:Int} {l:List Int} {k:Nat} (h:ErrAt (trmE s m l) l k) (hk:¬ (k:Int) < l.length):decide (1 ≤ (l.length:Int) ∧ (l.length:Int) ≤ 3) = decide (trmsE s m l = 0):=by
 unfold trmsE
 rw [h.done hk,decide_eq_decide]
 split <;> omega
theorem contains_take (l:List Int) (k:Nat) (v:Int):FCall Tryz.prog 173 [.sl 1 ((l.map wA).take k), .i v] (.b ((l.take k).any fun x=>decide (x = v))):=by
 have h:=contains_ints (l.take k) v
 rw [List.map_take] at h
 exact h
set_option maxHeartbeats 4000000 in
theorem terms_call (s:Sch) (m:Int) (l:List Int):FCall Tryz.prog 172 [sA s, .i m, .sl 1 (l.map wA)] (.b (decide (trmsE s m l = 0))):=by
 have hm:=fun c=>pmea_call s c
 refine fci Tryz.func172 41 fun hrd E h0=>?_
 have hlen:l.length ≤ 9223372036854775807:=by
  have:=(hrd (.sl 1 (l.map wA)) (by simp)).sl
  simpa using this
 clear hrd
 repeat' ((first|refine aops_go ?_|refine S1 ?_|refine Z1 ?_|refine Z2 ?_|(refine And.intro ?_ ?_<;>intro h<;>try first|(exfalso;omega)|exact absurd rfl h)|refine Z3 ?_|refine Z4 ?_|intro el hel hbB|intro el hel|intro ex|refine Z5 ?_|(refine free_i ?_ ?_;exact ⟨by kernel_rfl,by decide⟩)|refine allI_c ?_ ?_|exact allI_n|refine allMP_c ?_ ?_|exact allMP_n|(refine many_step ?_ ?_ ?_;kernel_rfl;kernel_rfl)) <;> (try (conv=>whnf)))
 refine loop_i (ι:=Nat) (fun k=>⟨[(1, .i m),(2, .sl 1 (l.map wA)),(3, .ref 0 0),(9, .sl 1 (l.map wA)),(10, .i l.length),(11, .i k)],1,[(0,some (.box (sL s)))]⟩) (fun k=>ErrAt (trmE s m l) l k) (fun k=>l.length - k) 0 (ErrAt.zero _ _)
  (le_of h0 rfl ⟨rfl,rfl,rfl,rfl,rfl,rfl,trivial⟩ ⟨rfl,trivial⟩ rfl rfl rfl) (fun k hI=>?_)
 have hkl:=hI.1
 by_cases hlt:k < l.length
 ·obtain ⟨c,hc⟩:∃ c,l[k]? = some c:=⟨_,List.getElem?_eq_getElem hlt⟩
  have h1:=hm c
  have h2:=contains_take l k c
  have hno:∀ e:Int,trmE s m l k c = e → ¬ e = 0 → false = decide (trmsE s m l = 0):=fun e h3 h4=>(decide_eq_false (trms_no (by rw [← hI.hit hc (by rw [h3];exact h4),h3];exact h4))).symm
  have hye:trmE s m l k c = 0 → ErrAt (trmE s m l) l (k + 1):=fun h=>hI.step hc h
  unfold trmE at hno hye
  generalize isB s c 3 = b at *
  generalize ((l.take k).any fun x=>decide (x = c)) = u at *
  repeat' ((first | (refine each_knownm (x:=c) hc (by omega) ?_) | refine call_i h1 ?_ | refine call_i h2 ?_ |refine aops_go ?_|refine S1 ?_|refine Z1 ?_|refine Z2 ?_|(refine And.intro ?_ ?_<;>intro h<;>try first|(exfalso;omega)|exact absurd rfl h)|refine Z3 ?_|refine Z4 ?_|intro el hel hbB|intro el hel|intro ex|refine Z5 ?_|(refine free_i ?_ ?_;exact ⟨by kernel_rfl,by decide⟩)|refine allI_c ?_ ?_|exact allI_n|refine allMP_c ?_ ?_|exact allMP_n|(refine many_step ?_ ?_ ?_;kernel_rfl;kernel_rfl)) <;> (try (conv=>whnf)))
  all_goals first
   | exact ret_tmp rfl (congrArg AV.b (hno 7 (by rw [if_pos (by assumption)]) (by omega)))
   | exact ret_tmp rfl (congrArg AV.b (hno 10 (by rw [if_neg (by simp [*]),if_pos (.inl (by assumption))]) (by omega)))
   | exact ret_tmp rfl (congrArg AV.b (hno 10 (by rw [if_neg (by simp [*]),if_pos (.inr (by assumption))]) (by omega)))
   | exact ⟨k + 1,hye (by rw [if_neg (by simp [*]),if_neg (by simp [*])]),by omega,le_of h0 rfl ⟨rfl,rfl,rfl,rfl,rfl,rfl,trivial⟩ ⟨rfl,trivial⟩ rfl rfl rfl⟩
   | (exfalso;omega)
 ·repeat' ((first|refine aops_go ?_|refine S1 ?_|refine Z1 ?_|refine Z2 ?_|(refine And.intro ?_ ?_<;>intro h<;>try first|(exfalso;omega)|exact absurd rfl h)|refine Z3 ?_|refine Z4 ?_|intro el hel hbB|intro el hel|intro ex|refine Z5 ?_|(refine free_i ?_ ?_;exact ⟨by kernel_rfl,by decide⟩)|refine allI_c ?_ ?_|exact allI_n|refine allMP_c ?_ ?_|exact allMP_n|(refine many_step ?_ ?_ ?_;kernel_rfl;kernel_rfl)) <;> (try (conv=>whnf)))
  all_goals first
   | (exfalso;omega)
   | (refine ret_tmp rfl (congrArg AV.b ?_);rw [← trms_end hI (by omega)];first | (rw [decide_eq_decide];omega) | (rw [eq_comm,decide_eq_false_iff_not];omega))
end Go.Proofs.YtjmbhlgocikfiaaGreatDoor
namespace Go.Proofs.YtjmbhlgocikfiaaGreatDoor
open Go Go.Av
attribute [local irreducible] AWp AOps AAny MAny DQ retQ retG St.le FCall GCall
set_option maxRecDepth 100000
set_option maxHeartbeats 4000000 in
theorem part_call (s:Sch) (e:Xpr):FCall Tryz.prog 137 [sA s,xprA e] (.b (parB s e)):=by
 have h1:=name_call e.name
 have h2:=pmea_call s e.col
 have h3:=dims_call s e.dims
 have h4:=terms_call s e.col e.cols
 rw [xprA_eq]
 unfold parB
 by_cases hB:isB s e.col 3 = true
 ·obtain ⟨hb0,hb1,_⟩:0 ≤ e.col ∧ e.col < s.cols.length ∧ (colAt s e.col).kind = 3:=by simpa [isB] using hB
  obtain ⟨c,hc⟩:∃ c,s.cols[e.col.toNat]? = some c:=⟨_,List.getElem?_eq_getElem (by omega)⟩
  have h5:=contains_ints c.widths e.num
  rw [colAt_get hc]
  rw [hB] at h2 ⊢
  generalize (c.widths.any fun x=>decide (x = e.num)) = b1 at *
  generalize nameB e.name = b2 at *
  generalize decide (dimsE s e.dims = 0) = b3 at *
  generalize decide (trmsE s e.col e.cols = 0) = b4 at *
  clear hB
  refine fci Tryz.func137 95 fun hrd E h0=>?_
  clear hrd
  repeat' ((first | (refine each_knownm (x:=c) hc (by omega) ?_) | refine call_i h1 ?_ | refine call_i h2 ?_ | refine call_i h3 ?_ | refine call_i h4 ?_ | refine call_i h5 ?_ | (refine draw_q ?_ ?_;kernel_rfl) |refine aops_go ?_|refine S1 ?_|refine Z1 ?_|refine Z2 ?_|(refine And.intro ?_ ?_<;>intro h<;>try first|(exfalso;omega)|exact absurd rfl h)|refine Z3 ?_|refine Z4 ?_|intro el hel hbB|intro el hel|intro ex|refine Z5 ?_|(refine free_i ?_ ?_;exact ⟨by kernel_rfl,by decide⟩)|refine allI_c ?_ ?_|exact allI_n|refine allMP_c ?_ ?_|exact allMP_n|(refine many_step ?_ ?_ ?_;kernel_rfl;kernel_rfl)) <;> (try (conv=>whnf)))
  all_goals first
   | (refine ret_tmp rfl (congrArg AV.b ?_);clear h1 h2 h3 h4 h5;(first | (simp only [*,if_true,if_false,Bool.true_eq_false,Bool.false_eq_true,or_true,or_false,true_or,false_or,and_true,true_and,and_false,false_and,not_true_eq_false,not_false_eq_true,ne_eq,reduceIte,Int.reduceEq,Int.reduceLT,Int.reduceLE,Int.reduceNeg,decide_true,decide_false,Bool.not_true,Bool.not_false,Bool.and_true,Bool.true_and,Bool.and_false,Bool.false_and,Bool.or_true,Bool.true_or,Bool.or_false,Bool.false_or,Option.some.injEq];done) | (simp only [*,if_true,if_false,Bool.true_eq_false,Bool.false_eq_true,not_true_eq_false,not_false_eq_true,ne_eq,reduceIte,Int.reduceEq];first | rfl | (repeat' split) <;> first | rfl | omega | (exfalso;omega) | contradiction)))
 ·have hB:isB s e.col 3 = false:=by simpa using hB
  rw [hB] at h2 ⊢
  generalize nameB e.name = b2 at *
  generalize decide (dimsE s e.dims = 0) = b3 at *
  generalize decide (trmsE s e.col e.cols = 0) = b4 at *
  clear hB
  refine fci Tryz.func137 95 fun hrd E h0=>?_
  clear hrd
  repeat' ((first | refine call_i h1 ?_ | refine call_i h2 ?_ | refine call_i h3 ?_ | refine call_i h4 ?_ | (refine draw_q ?_ ?_;kernel_rfl) |refine aops_go ?_|refine S1 ?_|refine Z1 ?_|refine Z2 ?_|(refine And.intro ?_ ?_<;>intro h<;>try first|(exfalso;omega)|exact absurd rfl h)|refine Z3 ?_|refine Z4 ?_|intro el hel hbB|intro el hel|intro ex|refine Z5 ?_|(refine free_i ?_ ?_;exact ⟨by kernel_rfl,by decide⟩)|refine allI_c ?_ ?_|exact allI_n|refine allMP_c ?_ ?_|exact allMP_n|(refine many_step ?_ ?_ ?_;kernel_rfl;kernel_rfl)) <;> (try (conv=>whnf)))
  all_goals first
   | (refine ret_tmp rfl (congrArg AV.b ?_);clear h1 h2 h3 h4;(first | (simp only [*,if_true,if_false,Bool.true_eq_false,Bool.false_eq_true,or_true,or_false,true_or,false_or,and_true,true_and,and_false,false_and,not_true_eq_false,not_false_eq_true,ne_eq,reduceIte,Int.reduceEq,Int.reduceLT,Int.reduceLE,Int.reduceNeg,decide_true,decide_false,Bool.not_true,Bool.not_false,Bool.and_true,Bool.true_and,Bool.and_false,Bool.false_and,Bool.or_true,Bool.true_or,Bool.or_false,Bool.false_or,Option.some.injEq];done) | (simp only [*,if_true,if_false,Bool.true_eq_false,Bool.false_eq_true,not_true_eq_false,not_false_eq_true,ne_eq,reduceIte,Int.reduceEq];first | rfl | (repeat' split) <;> first | rfl | omega | (exfalso;omega) | contradiction)))
set_option maxHeartbeats 2000000 in
theorem xpr_idx (l:List (Xpr)) (f:Nat) (caps:List AV) (p:(Xpr) → Bool) (hf:∀ x ∈ l,FCall Tryz.prog f ((fun x=>.agg (xprX x)) x :: caps) (.b (p x))):FCall Tryz.prog 141 [.sl 19 (l.map xprX), .fn f caps] (.i (idxP p l 0)):=by
 refine fci Tryz.func141 19 fun hrd E h0=>?_
 have hlen:l.length ≤ 9223372036854775807:=by have:=(hrd (.sl 19 (l.map xprX)) (by simp)).sl;simpa using this
 repeat' ((first|refine aops_go ?_|refine S1 ?_|refine Z1 ?_|refine Z2 ?_|(refine And.intro ?_ ?_<;>intro h<;>try first|(exfalso;omega)|exact absurd rfl h)|refine Z3 ?_|refine Z4 ?_|intro el hel hbB|intro el hel|intro ex|refine Z5 ?_|(refine free_i ?_ ?_;exact ⟨by kernel_rfl,by decide⟩)|refine allI_c ?_ ?_|exact allI_n|refine allMP_c ?_ ?_|exact allMP_n|(refine many_step ?_ ?_ ?_;kernel_rfl;kernel_rfl)) <;> (try (conv=>whnf)))
 refine loop_i (ι:=Nat) (fun k=>⟨[(0, .sl 19 (l.map xprX)),(1, .fn f caps),(7, .i l.length),(8, .i k)],0,[]⟩) (fun k=>k ≤ l.length ∧ idxP p l 0 = idxP p (l.drop k) k) (fun k=>l.length - k) 0 ⟨Nat.zero_le _,rfl⟩ (le_of h0 rfl ⟨rfl,rfl,rfl,rfl,trivial⟩ trivial rfl rfl rfl) (fun k hI=>?_)
 obtain ⟨hk,hI⟩:=hI
 repeat' ((first | refine call_i (hf _ (List.mem_of_getElem? hel)) ?_ |refine aops_go ?_|refine S1 ?_|refine Z1 ?_|refine Z2 ?_|(refine And.intro ?_ ?_<;>intro h<;>try first|(exfalso;omega)|exact absurd rfl h)|refine Z3 ?_|refine Z4 ?_|intro el hel hbB|intro el hel|intro ex|refine Z5 ?_|(refine free_i ?_ ?_;exact ⟨by kernel_rfl,by decide⟩)|refine allI_c ?_ ?_|exact allI_n|refine allMP_c ?_ ?_|exact allMP_n|(refine many_step ?_ ?_ ?_;kernel_rfl;kernel_rfl)) <;> (try (conv=>whnf)))
 all_goals first
  | exact ⟨k + 1,⟨by omega,by rw [hI,dropc hel,idxP,if_neg (by simp [h])];rfl⟩,by omega,le_of h0 rfl ⟨rfl,rfl,rfl,rfl,trivial⟩ trivial rfl rfl rfl⟩
  | exact ret_tmp rfl (congrArg AV.i (by rw [hI,dropc hel,idxP,if_pos (by simp [h])]))
  | exact ret_tmp rfl (congrArg AV.i (by rw [hI,show k = l.length by omega,List.drop_length];rfl))
set_option maxHeartbeats 2000000 in
theorem xpr_any (l:List (Xpr)) (f:Nat) (caps:List AV) (p:(Xpr) → Bool) (hf:∀ x ∈ l,FCall Tryz.prog f ((fun x=>.agg (xprX x)) x :: caps) (.b (p x))):FCall Tryz.prog 99 [.sl 19 (l.map xprX), .fn f caps] (.b (l.any p)):=by
 refine fci Tryz.func99 9 fun hrd E h0=>?_
 have hidx:=xpr_idx l f caps p hf
 repeat' ((first | refine call_i hidx ?_ |refine aops_go ?_|refine S1 ?_|refine Z1 ?_|refine Z2 ?_|(refine And.intro ?_ ?_<;>intro h<;>try first|(exfalso;omega)|exact absurd rfl h)|refine Z3 ?_|refine Z4 ?_|intro el hel hbB|intro el hel|intro ex|refine Z5 ?_|(refine free_i ?_ ?_;exact ⟨by kernel_rfl,by decide⟩)|refine allI_c ?_ ?_|exact allI_n|refine allMP_c ?_ ?_|exact allMP_n|(refine many_step ?_ ?_ ?_;kernel_rfl;kernel_rfl)) <;> (try (conv=>whnf)))
 all_goals first
  | exact ret_tmp rfl (congrArg AV.b (idxP_any p l 0 (by omega)))
set_option maxHeartbeats 2000000 in
theorem stm_idx (l:List (Stm)) (f:Nat) (caps:List AV) (p:(Stm) → Bool) (hf:∀ x ∈ l,FCall Tryz.prog f ((fun x=>.agg (stmL x)) x :: caps) (.b (p x))):FCall Tryz.prog 97 [.sl 21 (l.map stmL), .fn f caps] (.i (idxP p l 0)):=by
 refine fci Tryz.func97 19 fun hrd E h0=>?_
 have hlen:l.length ≤ 9223372036854775807:=by have:=(hrd (.sl 21 (l.map stmL)) (by simp)).sl;simpa using this
 repeat' ((first|refine aops_go ?_|refine S1 ?_|refine Z1 ?_|refine Z2 ?_|(refine And.intro ?_ ?_<;>intro h<;>try first|(exfalso;omega)|exact absurd rfl h)|refine Z3 ?_|refine Z4 ?_|intro el hel hbB|intro el hel|intro ex|refine Z5 ?_|(refine free_i ?_ ?_;exact ⟨by kernel_rfl,by decide⟩)|refine allI_c ?_ ?_|exact allI_n|refine allMP_c ?_ ?_|exact allMP_n|(refine many_step ?_ ?_ ?_;kernel_rfl;kernel_rfl)) <;> (try (conv=>whnf)))
 refine loop_i (ι:=Nat) (fun k=>⟨[(0, .sl 21 (l.map stmL)),(1, .fn f caps),(7, .i l.length),(8, .i k)],0,[]⟩) (fun k=>k ≤ l.length ∧ idxP p l 0 = idxP p (l.drop k) k) (fun k=>l.length - k) 0 ⟨Nat.zero_le _,rfl⟩ (le_of h0 rfl ⟨rfl,rfl,rfl,rfl,trivial⟩ trivial rfl rfl rfl) (fun k hI=>?_)
 obtain ⟨hk,hI⟩:=hI
 repeat' ((first | refine call_i (hf _ (List.mem_of_getElem? hel)) ?_ |refine aops_go ?_|refine S1 ?_|refine Z1 ?_|refine Z2 ?_|(refine And.intro ?_ ?_<;>intro h<;>try first|(exfalso;omega)|exact absurd rfl h)|refine Z3 ?_|refine Z4 ?_|intro el hel hbB|intro el hel|intro ex|refine Z5 ?_|(refine free_i ?_ ?_;exact ⟨by kernel_rfl,by decide⟩)|refine allI_c ?_ ?_|exact allI_n|refine allMP_c ?_ ?_|exact allMP_n|(refine many_step ?_ ?_ ?_;kernel_rfl;kernel_rfl)) <;> (try (conv=>whnf)))
 all_goals first
  | exact ⟨k + 1,⟨by omega,by rw [hI,dropc hel,idxP,if_neg (by simp [h])];rfl⟩,by omega,le_of h0 rfl ⟨rfl,rfl,rfl,rfl,trivial⟩ trivial rfl rfl rfl⟩
  | exact ret_tmp rfl (congrArg AV.i (by rw [hI,dropc hel,idxP,if_pos (by simp [h])]))
  | exact ret_tmp rfl (congrArg AV.i (by rw [hI,show k = l.length by omega,List.drop_length];rfl))
set_option maxHeartbeats 2000000 in
theorem stm_any (l:List (Stm)) (f:Nat) (caps:List AV) (p:(Stm) → Bool) (hf:∀ x ∈ l,FCall Tryz.prog f ((fun x=>.agg (stmL x)) x :: caps) (.b (p x))):FCall Tryz.prog 52 [.sl 21 (l.map stmL), .fn f caps] (.b (l.any p)):=by
 refine fci Tryz.func52 9 fun hrd E h0=>?_
 have hidx:=stm_idx l f caps p hf
 repeat' ((first | refine call_i hidx ?_ |refine aops_go ?_|refine S1 ?_|refine Z1 ?_|refine Z2 ?_|(refine And.intro ?_ ?_<;>intro h<;>try first|(exfalso;omega)|exact absurd rfl h)|refine Z3 ?_|refine Z4 ?_|intro el hel hbB|intro el hel|intro ex|refine Z5 ?_|(refine free_i ?_ ?_;exact ⟨by kernel_rfl,by decide⟩)|refine allI_c ?_ ?_|exact allI_n|refine allMP_c ?_ ?_|exact allMP_n|(refine many_step ?_ ?_ ?_;kernel_rfl;kernel_rfl)) <;> (try (conv=>whnf)))
 all_goals first
  | exact ret_tmp rfl (congrArg AV.b (idxP_any p l 0 (by omega)))
set_option maxHeartbeats 4000000 in
theorem right1_call (s:Sch) (k:Xpr) (hrc:FCall Tryz.prog 98 [sA s,xprA k] (.b (rigS s k))):FCall Tryz.prog 139 [xprA k, .iptr (sL s)] (.b (badK s k)):=by
 have h1:=number16_call k.op
 unfold badK
 generalize rigS s k = b at *
 refine fci Tryz.func139 14 fun hrd E h0=>?_
 clear hrd
 repeat' ((first | refine call_i h1 ?_ | refine call_i hrc ?_ |refine aops_go ?_|refine S1 ?_|refine Z1 ?_|refine Z2 ?_|(refine And.intro ?_ ?_<;>intro h<;>try first|(exfalso;omega)|exact absurd rfl h)|refine Z3 ?_|refine Z4 ?_|intro el hel hbB|intro el hel|intro ex|refine Z5 ?_|(refine free_i ?_ ?_;exact ⟨by kernel_rfl,by decide⟩)|refine allI_c ?_ ?_|exact allI_n|refine allMP_c ?_ ?_|exact allMP_n|(refine many_step ?_ ?_ ?_;kernel_rfl;kernel_rfl)) <;> (try (conv=>whnf)))
 all_goals clear hrc h1
 all_goals first
  | (refine ret_tmp rfl (congrArg AV.b ?_);simp [*];done)
set_option maxHeartbeats 8000000 in
theorem right_call (s:Sch) (hr:schE s = 0) (e:Xpr):FCall Tryz.prog 98 [sA s,xprA e] (.b (rigS s e)):=by
 refine xpr_ind (p:=fun e=>FCall Tryz.prog 98 [sA s,xprA e] (.b (rigS s e))) (fun e ih=>?_) e
 have hany:=xpr_any e.kids 139 [.iptr (sL s)] (badK s) fun k hk=>right1_call s k (ih k hk)
 have h1:=fields_call e.op
 have h2:=unusedX_call e
 have h3:=part_call s e
 have h4:=ccheck_call s e.cnd
 have h5:=ccheck_call s e.evt
 have h6:=pair16_call e.op
 rw [rigS_eq]
 unfold oneX
 rw [xprA_eq] at h2 h3 ⊢
 generalize decide (unuX e) = b1 at *
 generalize parB s e = b2 at *
 generalize cndE s e.cnd = n1 at *
 generalize cndE s e.evt = n2 at *
 generalize (e.kids.any (badK s)) = b3 at *
 rw [show decide (e.kids.length = 2) = decide ((e.kids.length:Int) = 2) by rw [decide_eq_decide];omega]
 clear ih
 refine fci Tryz.func98 61 fun hrd E h0=>?_
 clear hrd
 repeat' ((first | refine call_i h1 ?_ | refine call_i h2 ?_ | refine call_i h3 ?_ | refine call_i h4 ?_ | refine call_i h5 ?_ | refine call_i h6 ?_ | refine ncall_frz 0 ?_ | refine call_i hany ?_ | (refine draw_q ?_ ?_;kernel_rfl) |refine aops_go ?_|refine S1 ?_|refine Z1 ?_|refine Z2 ?_|(refine And.intro ?_ ?_<;>intro h<;>try first|(exfalso;omega)|exact absurd rfl h)|refine Z3 ?_|refine Z4 ?_|intro el hel hbB|intro el hel|intro ex|refine Z5 ?_|(refine free_i ?_ ?_;exact ⟨by kernel_rfl,by decide⟩)|refine allI_c ?_ ?_|exact allI_n|refine allMP_c ?_ ?_|exact allMP_n|(refine many_step ?_ ?_ ?_;kernel_rfl;kernel_rfl)) <;> (try (conv=>whnf)))
 all_goals clear h1 h2 h3 h4 h5 h6 hany
 all_goals first
  | (refine ret_tmp rfl (congrArg AV.b ?_);(first | (simp only [*,if_true,if_false,Bool.true_eq_false,Bool.false_eq_true,or_true,or_false,true_or,false_or,and_true,true_and,and_false,false_and,not_true_eq_false,not_false_eq_true,ne_eq,reduceIte,Int.reduceEq,Int.reduceLT,Int.reduceLE,Int.reduceNeg,decide_true,decide_false,Bool.not_true,Bool.not_false,Bool.and_true,Bool.true_and,Bool.and_false,Bool.false_and,Bool.or_true,Bool.true_or,Bool.or_false,Bool.false_or,Option.some.injEq];done) | (simp only [*,if_true,if_false,Bool.true_eq_false,Bool.false_eq_true,not_true_eq_false,not_false_eq_true,ne_eq,reduceIte,Int.reduceEq];first | rfl | (repeat' split) <;> first | rfl | omega | (exfalso;omega) | contradiction)))
  | (refine ret_tmp rfl (congrArg AV.b ?_);simp_all;done)
set_option maxHeartbeats 4000000 in
theorem rightX_call (s:Sch) (e:Xpr):FCall Tryz.prog 57 [sA s,xprA e] (.b (rigX s e)):=by
 have h1:=scheck_call s
 have h2:=fun hr=>right_call s hr e
 unfold rigX
 generalize rigS s e = b at *
 refine fci Tryz.func57 13 fun hrd E h0=>?_
 clear hrd
 repeat' ((first | refine call_i h1 ?_ | refine call_i (h2 (by assumption)) ?_ | (refine draw_q ?_ ?_;kernel_rfl) |refine aops_go ?_|refine S1 ?_|refine Z1 ?_|refine Z2 ?_|(refine And.intro ?_ ?_<;>intro h<;>try first|(exfalso;omega)|exact absurd rfl h)|refine Z3 ?_|refine Z4 ?_|intro el hel hbB|intro el hel|intro ex|refine Z5 ?_|(refine free_i ?_ ?_;exact ⟨by kernel_rfl,by decide⟩)|refine allI_c ?_ ?_|exact allI_n|refine allMP_c ?_ ?_|exact allMP_n|(refine many_step ?_ ?_ ?_;kernel_rfl;kernel_rfl)) <;> (try (conv=>whnf)))
 all_goals first
  | (refine ret_tmp rfl (congrArg AV.b ?_);simp [*];done)
set_option maxHeartbeats 4000000 in
theorem xcount_call (e:Xpr):∀ (m:Int), -100000 ≤ m → m ≤ 100000 → FCall Tryz.prog 55 [xprA e, .i m] (.i (cntS (treeX e) m)):=by
 refine xpr_ind (p:=fun e=>∀ (m:Int), -100000 ≤ m → m ≤ 100000 → FCall Tryz.prog 55 [xprA e, .i m] (.i (cntS (treeX e) m))) (fun e ih m hm1 hm2=>?_) e
 rw [xprA_eq,cntS_eq,tree_kids]
 refine fci Tryz.func55 27 fun hrd E h0=>?_
 have hlen:e.kids.length ≤ 9223372036854775807:=by
  have:=((hrd _ (List.mem_cons_self ..)).agg (.sl 19 (e.kids.map xprX)) (by simp)).sl
  simpa using this
 clear hrd
 repeat' ((first|refine aops_go ?_|refine S1 ?_|refine Z1 ?_|refine Z2 ?_|(refine And.intro ?_ ?_<;>intro h<;>try first|(exfalso;omega)|exact absurd rfl h)|refine Z3 ?_|refine Z4 ?_|intro el hel hbB|intro el hel|intro ex|refine Z5 ?_|(refine free_i ?_ ?_;exact ⟨by kernel_rfl,by decide⟩)|refine allI_c ?_ ?_|exact allI_n|refine allMP_c ?_ ?_|exact allMP_n|(refine many_step ?_ ?_ ?_;kernel_rfl;kernel_rfl)) <;> (try (conv=>whnf)))
 refine loop_i (ι:=Nat × Int) (fun x=>⟨[(1, .i m),(5, .i x.2),(9, .sl 19 (e.kids.map xprX)),(10, .i e.kids.length),(11, .i x.1)],1,[(0,some (.box (xprY e)))]⟩) (fun x=>x.1 ≤ e.kids.length ∧ (1 ≤ x.2 ∧ x.2 ≤ max 1 (m + 1)) ∧ cntL (e.kids.map treeX) m 1 = cntL ((e.kids.map treeX).drop x.1) m x.2) (fun x=>e.kids.length - x.1) (0,1) ⟨Nat.zero_le _,by dsimp only;omega,rfl⟩
  (le_of h0 rfl ⟨rfl,rfl,rfl,rfl,rfl,trivial⟩ ⟨rfl,trivial⟩ rfl rfl rfl) (fun x hI=>?_)
 obtain ⟨k,n⟩:=x
 obtain ⟨hk,hn,hI⟩:=hI
 dsimp only at hk hn hI ⊢
 repeat' ((first | (refine call_i (ih _ (List.mem_of_getElem? (by assumption)) _ (by omega) (by omega)) ?_) | (refine side_i ?_ ?_;(have:=cntS_bd (treeX el) (m - n);omega)) |refine aops_go ?_|refine S1 ?_|refine Z1 ?_|refine Z2 ?_|(refine And.intro ?_ ?_<;>intro h<;>try first|(exfalso;omega)|exact absurd rfl h)|refine Z3 ?_|refine Z4 ?_|intro el hel hbB|intro el hel|intro ex|refine Z5 ?_|(refine free_i ?_ ?_;exact ⟨by kernel_rfl,by decide⟩)|refine allI_c ?_ ?_|exact allI_n|refine allMP_c ?_ ?_|exact allMP_n|(refine many_step ?_ ?_ ?_;kernel_rfl;kernel_rfl)) <;> (try (conv=>whnf)))
 all_goals first
  | exact ret_tmp rfl (congrArg AV.i (by rw [hI,dropc (tree_get hel),cntL,if_pos (by assumption)]))
  | exact ret_tmp rfl (congrArg AV.i (by rw [hI,drop_end (by rw [List.length_map];assumption)];rfl))
  | exact ⟨(k + 1,n + cntS (treeX el) (m - n)),⟨by dsimp only;omega,(by have:=cntS_bd (treeX el) (m - n);dsimp only;omega),by rw [hI,dropc (tree_get hel),cntL,if_neg (by assumption)]⟩,by dsimp only;omega,le_of h0 rfl ⟨rfl,rfl,rfl,rfl,rfl,trivial⟩ ⟨rfl,trivial⟩ rfl rfl rfl⟩
set_option maxHeartbeats 4000000 in
theorem xdeep_call (e:Xpr):depS (treeX e) ≤ 100000 → FCall Tryz.prog 56 [xprA e] (.i (depS (treeX e))):=by
 refine xpr_ind (p:=fun e=>depS (treeX e) ≤ 100000 → FCall Tryz.prog 56 [xprA e] (.i (depS (treeX e)))) (fun e ih hd=>?_) e
 rw [depS_eq,tree_kids] at hd
 rw [xprA_eq,depS_eq,tree_kids]
 have hge:=depL_ge (e.kids.map treeX) 0
 refine fci Tryz.func56 20 fun hrd E h0=>?_
 have hlen:e.kids.length ≤ 9223372036854775807:=by
  have:=((hrd _ (List.mem_cons_self ..)).agg (.sl 19 (e.kids.map xprX)) (by simp)).sl
  simpa using this
 clear hrd
 repeat' ((first|refine aops_go ?_|refine S1 ?_|refine Z1 ?_|refine Z2 ?_|(refine And.intro ?_ ?_<;>intro h<;>try first|(exfalso;omega)|exact absurd rfl h)|refine Z3 ?_|refine Z4 ?_|intro el hel hbB|intro el hel|intro ex|refine Z5 ?_|(refine free_i ?_ ?_;exact ⟨by kernel_rfl,by decide⟩)|refine allI_c ?_ ?_|exact allI_n|refine allMP_c ?_ ?_|exact allMP_n|(refine many_step ?_ ?_ ?_;kernel_rfl;kernel_rfl)) <;> (try (conv=>whnf)))
 refine loop_i (ι:=Nat × Nat) (fun x=>⟨[(3, .i x.2),(7, .sl 19 (e.kids.map xprX)),(8, .i e.kids.length),(9, .i x.1)],1,[(0,some (.box (xprY e)))]⟩) (fun x=>x.1 ≤ e.kids.length ∧ x.2 ≤ depL (e.kids.map treeX) 0 ∧ depL (e.kids.map treeX) 0 = depL ((e.kids.map treeX).drop x.1) x.2) (fun x=>e.kids.length - x.1) (0,0) ⟨Nat.zero_le _,Nat.zero_le _,rfl⟩
  (le_of h0 rfl ⟨rfl,rfl,rfl,rfl,trivial⟩ ⟨rfl,trivial⟩ rfl rfl rfl) (fun x hI=>?_)
 obtain ⟨k,n⟩:=x
 obtain ⟨hk,hn,hI⟩:=hI
 dsimp only at hk hn hI ⊢
 have hkd:∀ el,e.kids[k]? = some el → depS (treeX el) ≤ depL (e.kids.map treeX) 0:=fun el hel=>hge.2 _ (List.mem_of_getElem? (tree_get hel))
 repeat' ((first | (refine call_i (ih _ (List.mem_of_getElem? (by assumption)) (by have:=hkd el hel;omega)) ?_) |refine aops_go ?_|refine S1 ?_|refine Z1 ?_|refine Z2 ?_|(refine And.intro ?_ ?_<;>intro h<;>try first|(exfalso;omega)|exact absurd rfl h)|refine Z3 ?_|refine Z4 ?_|intro el hel hbB|intro el hel|intro ex|refine Z5 ?_|(refine free_i ?_ ?_;exact ⟨by kernel_rfl,by decide⟩)|refine allI_c ?_ ?_|exact allI_n|refine allMP_c ?_ ?_|exact allMP_n|(refine many_step ?_ ?_ ?_;kernel_rfl;kernel_rfl)) <;> (try (conv=>whnf)))
 all_goals first
  | exact ret_tmp rfl (congrArg AV.i (by rw [hI,drop_end (by rw [List.length_map];assumption)];unfold depL;omega))
  | exact ⟨(k + 1,max n (depS (treeX el))),⟨by dsimp only;omega,(by have:=hkd el hel;dsimp only;omega),by rw [hI,dropc (tree_get hel),depL]⟩,by dsimp only;omega,le_of h0 rfl ⟨congrArg (fun z:Int=>some (AV.i z)) (by dsimp only;omega),rfl,rfl,rfl,trivial⟩ ⟨rfl,trivial⟩ rfl rfl rfl⟩
instance:TVar Tryz.prog 107 false 1:=.of (by kernel_rfl) (by kernel_rfl)
set_option maxHeartbeats 4000000 in
theorem named1_call (f:Nat) (caps:List AV) (g:List UInt8 → Bool) (k:Xpr) (h:FCall Tryz.prog 58 [xprA k, .fn f caps] (.b (namS g k))):FCall Tryz.prog 100 [xprA k, .iptr [.fn f caps]] (.b (!namS g k)):=by
 refine fci Tryz.func100 8 fun hrd E h0=>?_
 clear hrd
 repeat' ((first | refine call_i h ?_ |refine aops_go ?_|refine S1 ?_|refine Z1 ?_|refine Z2 ?_|(refine And.intro ?_ ?_<;>intro h<;>try first|(exfalso;omega)|exact absurd rfl h)|refine Z3 ?_|refine Z4 ?_|intro el hel hbB|intro el hel|intro ex|refine Z5 ?_|(refine free_i ?_ ?_;exact ⟨by kernel_rfl,by decide⟩)|refine allI_c ?_ ?_|exact allI_n|refine allMP_c ?_ ?_|exact allMP_n|(refine many_step ?_ ?_ ?_;kernel_rfl;kernel_rfl)) <;> (try (conv=>whnf)))
 all_goals first
  | exact ret_tmp rfl rfl
set_option maxHeartbeats 4000000 in
theorem named_call (f:Nat) (caps:List AV) (hcl:closedLB caps = true) (g:List UInt8 → Bool) (hf:∀ nm,FCall Tryz.prog f (.str nm :: caps) (.b (g nm))) (e:Xpr):FCall Tryz.prog 58 [xprA e, .fn f caps] (.b (namS g e)):=by
 refine xpr_ind (p:=fun e=>FCall Tryz.prog 58 [xprA e, .fn f caps] (.b (namS g e))) (fun e ih=>?_) e
 have hany:=xpr_any e.kids 100 [.iptr [.fn f caps]] (fun k=>!namS g k) fun k hk=>named1_call f caps g k (ih k hk)
 have h1:=hf e.name
 rw [xprA_eq,namS_eq]
 generalize g e.name = b1 at *
 generalize (e.kids.any fun k=>!namS g k) = b2 at *
 clear ih hf
 refine fci Tryz.func58 20 fun hrd E h0=>?_
 clear hrd
 repeat' ((first | refine call_i h1 ?_ | refine ncall_frz 1 ?_ | refine call_i hany ?_ | (refine draw_q ?_ ?_;kernel_rfl) |refine aops_go ?_|refine S1 ?_|refine Z1 ?_|refine Z2 ?_|(refine And.intro ?_ ?_<;>intro h<;>try first|(exfalso;omega)|exact absurd rfl h)|refine Z3 ?_|refine Z4 ?_|intro el hel hbB|intro el hel|intro ex|refine Z5 ?_|(refine free_i ?_ ?_;exact ⟨by kernel_rfl,by decide⟩)|refine allI_c ?_ ?_|exact allI_n|refine allMP_c ?_ ?_|exact allMP_n|(refine many_step ?_ ?_ ?_;kernel_rfl;kernel_rfl)) <;> (try (conv=>whnf)))
 all_goals clear h1 hany
 all_goals first
  | (refine ret_tmp rfl (congrArg AV.b ?_);simp [*];done)
theorem known11_call (y:Stm) (nm:List UInt8):FCall Tryz.prog 53 [stmA y, .iptr [.str nm]] (.b (decide (y.name = nm))):=by
 refine fci Tryz.func53 8 fun hrd E h0=>?_
 clear hrd
 repeat' ((first|refine aops_go ?_|refine S1 ?_|refine Z1 ?_|refine Z2 ?_|(refine And.intro ?_ ?_<;>intro h<;>try first|(exfalso;omega)|exact absurd rfl h)|refine Z3 ?_|refine Z4 ?_|intro el hel hbB|intro el hel|intro ex|refine Z5 ?_|(refine free_i ?_ ?_;exact ⟨by kernel_rfl,by decide⟩)|refine allI_c ?_ ?_|exact allI_n|refine allMP_c ?_ ?_|exact allMP_n|(refine many_step ?_ ?_ ?_;kernel_rfl;kernel_rfl)) <;> (try (conv=>whnf)))
 all_goals first
  | exact ret_tmp rfl rfl
theorem known1_call (l:List Stm) (nm:List UInt8):FCall Tryz.prog 51 [.str nm, .iptr [.sl 21 (l.map stmL)]] (.b (knoB l nm)):=by
 have hany:=stm_any l 53 [.iptr [.str nm]] (fun y=>decide (y.name = nm)) fun y _=>known11_call y nm
 refine fci Tryz.func51 7 fun hrd E h0=>?_
 clear hrd
 repeat' ((first | refine ncall_frz 0 ?_ | refine call_i hany ?_ |refine aops_go ?_|refine S1 ?_|refine Z1 ?_|refine Z2 ?_|(refine And.intro ?_ ?_<;>intro h<;>try first|(exfalso;omega)|exact absurd rfl h)|refine Z3 ?_|refine Z4 ?_|intro el hel hbB|intro el hel|intro ex|refine Z5 ?_|(refine free_i ?_ ?_;exact ⟨by kernel_rfl,by decide⟩)|refine allI_c ?_ ?_|exact allI_n|refine allMP_c ?_ ?_|exact allMP_n|(refine many_step ?_ ?_ ?_;kernel_rfl;kernel_rfl)) <;> (try (conv=>whnf)))
 all_goals first
  | exact ret_tmp rfl rfl
set_option maxHeartbeats 8000000 in
theorem pcheckOne_call (s:Sch) (l:List Stm) (t:Stm):FCall Tryz.prog 30 [sA s, .sl 21 (l.map stmL),stmA t] (.i (stmE s l t)):=by
 have h1:=name_call t.name
 have h2:=known1_call l t.name
 have h3:=xcount_call t.x 60 (by omega) (by omega)
 have h4:(totS (treeX t.x):Int) ≤ 60 → FCall Tryz.prog 56 [xprA t.x] (.i (depS (treeX t.x))):=fun h=>xdeep_call t.x (by have:=dep_tot (treeX t.x);omega)
 have h5:=rightX_call s t.x
 have h6:=named_call 51 [.iptr [.sl 21 (l.map stmL)]] rfl (knoB l) (known1_call l) t.x
 obtain ⟨t1,t2⟩:=cnt_tot (treeX t.x) 60
 unfold stmE
 generalize nameB t.name = b1 at *
 generalize knoB l t.name = b2 at *
 generalize rigX s t.x = b3 at *
 generalize namS (knoB l) t.x = b4 at *
 generalize cntS (treeX t.x) 60 = n1 at *
 generalize totS (treeX t.x) = n2 at *
 generalize depS (treeX t.x) = n3 at *
 refine fci Tryz.func30 41 fun hrd E h0=>?_
 clear hrd
 repeat' ((first | refine call_i h1 ?_ | refine call_i h2 ?_ | refine call_i h3 ?_ | (refine call_i (h4 (by omega)) ?_) | refine call_i h5 ?_ | refine call_i h6 ?_ | refine ncall_frz 1 ?_ | (refine draw_q ?_ ?_;kernel_rfl) |refine aops_go ?_|refine S1 ?_|refine Z1 ?_|refine Z2 ?_|(refine And.intro ?_ ?_<;>intro h<;>try first|(exfalso;omega)|exact absurd rfl h)|refine Z3 ?_|refine Z4 ?_|intro el hel hbB|intro el hel|intro ex|refine Z5 ?_|(refine free_i ?_ ?_;exact ⟨by kernel_rfl,by decide⟩)|refine allI_c ?_ ?_|exact allI_n|refine allMP_c ?_ ?_|exact allMP_n|(refine many_step ?_ ?_ ?_;kernel_rfl;kernel_rfl)) <;> (try (conv=>whnf)))
 all_goals clear h1 h2 h3 h4 h5 h6
 all_goals first
  | (refine ret_tmp rfl (congrArg AV.i ?_);rw [if_pos (by assumption)];done)
  | (refine ret_tmp rfl (congrArg AV.i ?_);rw [if_neg (by simp [*]),if_pos (by assumption)];done)
  | (refine ret_tmp rfl (congrArg AV.i ?_);rw [if_neg (by simp [*]),if_neg (by simp [*]),if_pos (by omega)];done)
  | (refine ret_tmp rfl (congrArg AV.i ?_);rw [if_neg (by simp [*]),if_neg (by simp [*]),if_neg (by omega),if_pos (by omega)];done)
  | (refine ret_tmp rfl (congrArg AV.i ?_);rw [if_neg (by simp [*]),if_neg (by simp [*]),if_neg (by omega),if_neg (by omega),if_pos (by assumption)];done)
  | (refine ret_tmp rfl (congrArg AV.i ?_);rw [if_neg (by simp [*]),if_neg (by simp [*]),if_neg (by omega),if_neg (by omega),if_neg (by simp [*]),if_pos (by assumption)];done)
  | (refine ret_tmp rfl (congrArg AV.i ?_);rw [if_neg (by simp [*]),if_neg (by simp [*]),if_neg (by omega),if_neg (by omega),if_neg (by simp [*]),if_neg (by simp [*])];done)
set_option maxHeartbeats 8000000 in
theorem pCheck_call (s:Sch) (l:List Stm):FCall Tryz.prog 14 [sA s, .sl 21 (l.map stmL)] (.tup [.i (proS s l).1, .i (proS s l).2]):=by
 have h1:=scheck_call s
 have h2:∀ (k:Nat) t,FCall Tryz.prog 30 [sA s, .sl 21 ((l.map stmL).take k),stmA t] (.i (stmE s (l.take k) t)):=fun k t=>by
  have h:=pcheckOne_call s (l.take k) t
  rw [List.map_take] at h
  exact h
 unfold proS
 refine fci Tryz.func14 38 fun hrd E h0=>?_
 have hlen:l.length ≤ 9223372036854775807:=by
  have:=(hrd (.sl 21 (l.map stmL)) (by simp)).sl
  simpa using this
 clear hrd
 repeat' ((first | refine call_i h1 ?_ |refine aops_go ?_|refine S1 ?_|refine Z1 ?_|refine Z2 ?_|(refine And.intro ?_ ?_<;>intro h<;>try first|(exfalso;omega)|exact absurd rfl h)|refine Z3 ?_|refine Z4 ?_|intro el hel hbB|intro el hel|intro ex|refine Z5 ?_|(refine free_i ?_ ?_;exact ⟨by kernel_rfl,by decide⟩)|refine allI_c ?_ ?_|exact allI_n|refine allMP_c ?_ ?_|exact allMP_n|(refine many_step ?_ ?_ ?_;kernel_rfl;kernel_rfl)) <;> (try (conv=>whnf)))
 all_goals first
  | (rw [if_neg (by assumption)];exact ret_tmp2 rfl rfl rfl)
  | (rw [if_pos (by omega),if_pos (by omega)];exact ret_tmp2 rfl rfl rfl)
  | skip
 rw [if_pos (by omega),if_neg (by omega)]
 refine loop_i (ι:=Nat) (fun k=>⟨[(1, .sl 21 (l.map stmL)),(2, .ref 0 0),(18, .sl 21 (l.map stmL)),(19, .i l.length),(20, .i k)],1,[(0,some (.box (sL s)))]⟩) (fun k=>k ≤ l.length ∧ proE s l 0 l = proE s l k (l.drop k)) (fun k=>l.length - k) 0 ⟨Nat.zero_le _,rfl⟩
  (le_of h0 rfl ⟨rfl,rfl,rfl,rfl,rfl,trivial⟩ ⟨rfl,trivial⟩ rfl rfl rfl) (fun k hI=>?_)
 obtain ⟨hk,hI⟩:=hI
 have h3:=h2 k
 repeat' ((first | refine call_i (h3 _) ?_ | (refine draw_q ?_ ?_;kernel_rfl) |refine aops_go ?_|refine S1 ?_|refine Z1 ?_|refine Z2 ?_|(refine And.intro ?_ ?_<;>intro h<;>try first|(exfalso;omega)|exact absurd rfl h)|refine Z3 ?_|refine Z4 ?_|intro el hel hbB|intro el hel|intro ex|refine Z5 ?_|(refine free_i ?_ ?_;exact ⟨by kernel_rfl,by decide⟩)|refine allI_c ?_ ?_|exact allI_n|refine allMP_c ?_ ?_|exact allMP_n|(refine many_step ?_ ?_ ?_;kernel_rfl;kernel_rfl)) <;> (try (conv=>whnf)))
 all_goals first
  | (rw [hI,dropc hel,proE,if_neg (by omega)];exact ret_tmp2 rfl rfl rfl)
  | (rw [hI,drop_end (by assumption),proE,show k = l.length by omega];exact ret_tmp2 rfl rfl rfl)
  | exact ⟨k + 1,⟨by omega,by rw [hI,dropc hel,proE,if_pos (by omega)]⟩,by omega,le_of h0 rfl ⟨rfl,rfl,rfl,rfl,rfl,trivial⟩ ⟨rfl,trivial⟩ rfl rfl rfl⟩
end Go.Proofs.YtjmbhlgocikfiaaGreatDoor
