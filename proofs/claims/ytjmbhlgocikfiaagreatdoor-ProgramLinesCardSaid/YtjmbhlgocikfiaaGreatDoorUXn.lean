/- Chapter 16: a statement more within a right program. -/
import Derived.Test.YtjmbhlgocikfiaaGreatDoorUPm4
import Derived.Test.YtjmbhlgocikfiaaGreatDoorUCB
import Derived.Test.YtjmbhlgocikfiaaGreatDoorUXt3
set_option linter.unusedVariables false
set_option linter.unnecessarySimpa false
set_option linter.unusedSimpArgs false
namespace Go.Proofs.YtjmbhlgocikfiaaGreatDoor
open Go Go.Av
attribute [local irreducible] AWp AOps AAny MAny DQ retQ retG St.le FCall GCall
set_option maxRecDepth 100000
def chain (s:Sch):List Stm → List Stm → Prop
 | _,[]=>True
 | pre,t :: r=>stmE s pre t = 0 ∧ chain s (pre ++ [t]) r
def prS (s:Sch):List Stm → List Stm → Int × Int
 | pre,[]=>(((pre.length:Nat):Int),0)
 | pre,t :: r=>if stmE s pre t = 0 then prS s (pre ++ [t]) r else (((pre.length:Nat):Int),stmE s pre t)
theorem proE_prS (s:Sch):∀ (l pre L:List Stm),L = pre ++ l → proE s L pre.length l = prS s pre l
 | [],pre,L,h=>rfl
 | t :: r,pre,L,h=>by
  have e:L.take pre.length = pre:=by rw [h];exact List.take_left
  rw [proE,prS,e]
  split
  ·have:=proE_prS s r (pre ++ [t]) L (by rw [h];simp)
   rw [List.length_append,List.length_singleton] at this
   exact this
  ·rfl
theorem proS_prS {s:Sch} (hr:schE s = 0) {l:List Stm} (h:l.length ≤ 30):proS s l = prS s [] l:=by
 unfold proS
 rw [if_pos hr,if_neg (by omega)]
 exact proE_prS s l [] l rfl
theorem prS_chain {s:Sch}:∀ (a pre b:List Stm),chain s pre a → prS s pre (a ++ b) = prS s (pre ++ a) b
 | [],pre,b,_=>by simp
 | t :: r,pre,b,h=>by
  rw [List.cons_append,prS,if_pos h.1,prS_chain r _ b h.2,List.append_assoc];rfl
theorem prS_all {s:Sch} {l:List Stm} (h:chain s [] l):prS s [] l = (((l.length:Nat):Int),0):=by
 have:=prS_chain l [] [] h
 rw [List.append_nil] at this
 rw [this];rfl
theorem chain_of {s:Sch}:∀ (l pre:List Stm),(∀ (i:Nat) t,l[i]? = some t → stmE s (pre ++ l.take i) t = 0) → chain s pre l
 | [],_,_=>trivial
 | t :: r,pre,h=>by
  refine ⟨by have:=h 0 t rfl;simpa using this,chain_of r _ fun i u hu=>?_⟩
  have:=h (i + 1) u (by simpa using hu)
  rw [List.take_succ_cons] at this
  rw [List.append_assoc];exact this
theorem chain_join {s:Sch}:∀ (a pre b:List Stm),chain s pre a → chain s (pre ++ a) b → chain s pre (a ++ b)
 | [],pre,b,_,h=>by rw [List.append_nil] at h;exact h
 | t :: r,pre,b,h1,h2=>⟨h1.1,chain_join r _ b h1.2 (by rw [List.append_assoc];exact h2)⟩
theorem kno_no {l:List Stm} {nm:List UInt8} (h:∀ t ∈ l,t.name ≠ nm):knoB l nm = false :=
 List.any_eq_false.2 fun t ht=>by rw [decide_eq_true_iff];exact h t ht
end Go.Proofs.YtjmbhlgocikfiaaGreatDoor
namespace Go.Proofs.YtjmbhlgocikfiaaGreatDoor
open Go Go.Av
attribute [local irreducible] AWp AOps AAny MAny DQ retQ retG St.le FCall GCall
set_option maxRecDepth 100000
theorem jnS_sum (sep:List UInt8):∀ l:List (List UInt8),(jnS sep l).length ≤ (l.map List.length).sum + l.length * sep.length
 | []=>by simp [jnS]
 | [x]=>by simp [jnS]
 | x :: y :: r=>by
  have ih:=jnS_sum sep (y :: r)
  unfold jnS
  rw [List.length_append,List.length_append,List.map_cons,List.sum_cons,List.length_cons,Nat.add_mul,Nat.one_mul]
  omega
theorem txtS_tot {s:Sch} {c:Cnd} (h:cndE s c = 0):(txtS s c).length ≤ 100 * totS c:=by
 obtain ⟨hr,h3,h4,h5⟩:=cndE_parts h
 exact (ctext_call s hr c h5 (by omega)).2
theorem prtJ_tot {s:Sch} (hr:schE s = 0) {e:Xpr} (hg:RigE s e) (h1:¬ e.op = 1) (h2:¬ e.op = 2) (h3:¬ (6 ≤ e.op ∧ e.op ≤ 9)):(jnS bSep (prtX s e.op e.num e.col e.cols e.dims e.evt ++ [txtS s e.cnd])).length ≤ 240 + 100 * totS e.cnd + 100 * totS e.evt:=by
 obtain ⟨_,_,q1,q2,q3⟩:=rig_call hr hg h1 h2 h3
 have hln:=hg.lens
 have hcd:=txtS_tot q3
 have hnm:=nmD_len hr e.col
 have hop:=hg.op
 have hj:=jnS_sum bSep (prtX s e.op e.num e.col e.cols e.dims e.evt ++ [txtS s e.cnd])
 have hb:bSep.length = 2:=rfl
 rw [hb] at hj
 refine Nat.le_trans hj ?_
 clear hj
 unfold hdOk at q1
 unfold mdOk at q2
 unfold prtX
 by_cases o3:e.op = 3
 ·rw [if_pos o3]
  simp only [List.nil_append,List.map_cons,List.map_nil,List.sum_cons,List.sum_nil,List.length_cons,List.length_nil]
  omega
 rw [if_neg o3] at q1 ⊢
 by_cases o10:e.op = 10
 ·rw [if_pos o10] at q1 ⊢
  have:=dimTs_len hr hln.1 q1.2.1
  simp only [List.cons_append,List.nil_append,List.map_cons,List.map_nil,List.sum_cons,List.sum_nil,List.length_cons,List.length_nil] at this ⊢
  omega
 rw [if_neg o10] at q1 ⊢
 by_cases o11:e.op = 11
 ·rw [if_pos o11]
  have:=nmDs_len hr hln.2.1
  simp only [List.cons_append,List.nil_append,List.map_cons,List.map_nil,List.sum_cons,List.sum_nil,List.length_cons,List.length_nil] at this ⊢
  omega
 rw [if_neg o11] at q2 ⊢
 by_cases o12:e.op = 12
 ·rw [if_pos o12] at q2 ⊢
  have:=txtS_tot q2.2.2
  simp only [List.cons_append,List.nil_append,List.map_cons,List.map_nil,List.sum_cons,List.sum_nil,List.length_cons,List.length_nil] at this ⊢
  omega
 rw [if_neg o12] at q2 ⊢
 by_cases o13:e.op = 13
 ·rw [if_pos o13] at q2 ⊢
  have:=Lib.itoa_length_le e.num (by have:=q2.1;omega) (by have:=q2.1;omega)
  simp only [List.cons_append,List.nil_append,List.map_cons,List.map_nil,List.sum_cons,List.sum_nil,List.length_cons,List.length_nil] at this ⊢
  omega
 rw [if_neg o13]
 simp only [List.cons_append,List.nil_append,List.map_cons,List.map_nil,List.sum_cons,List.sum_nil,List.length_cons,List.length_nil]
 omega
theorem leaf_tot {s:Sch} (hr:schE s = 0) {e:Xpr} (hg:RigE s e) (h3:¬ (6 ≤ e.op ∧ e.op ≤ 9)):(txtX s e).length ≤ 250 + 100 * totS e.cnd + 100 * totS e.evt:=by
 have htx:=txtX_eq s e
 by_cases h1:e.op = 1
 ·have hpar:=hg.par
  unfold parB at hpar
  rw [if_pos h1] at hpar
  have hb:=of_decide_eq_true hpar
  have:=Lib.itoa_length_le e.num (by omega) (by omega)
  rw [htx,if_pos h1]
  omega
 rw [if_neg h1] at htx
 by_cases h2:e.op = 2
 ·have hpar:=hg.par
  unfold parB at hpar
  rw [if_neg h1,if_pos h2] at hpar
  have:=nameB_len hpar
  rw [htx,if_pos h2]
  omega
 rw [if_neg h2,if_neg h3] at htx
 have:=prtJ_tot hr hg h1 h2 h3
 have hw:=wrdX_len e.op
 rw [htx]
 simp only [List.length_append,List.length_cons,List.length_nil]
 omega
theorem cnt_tot2 {s:Sch} {cd:Cnd} (h:cndE s cd = 0):(txtX s (.mk 3 0 [] 0 [] [] cd zC [])).length ≤ 10 + 100 * totS cd:=by
 have:=txtS_tot h
 show (wrdX 3 ++ [40] ++ jnS bSep ([] ++ [txtS s cd]) ++ [41]).length ≤ _
 have hw:(wrdX 3).length = 5:=rfl
 simp only [List.nil_append,List.length_append,List.length_cons,List.length_nil,jnS]
 omega
theorem numL_len {s:Sch} (hd:Drawn s) (l:List UInt8) (names:List (List UInt8)) (a:Nat) (hg:rigS s (numL l s names a).1 = true):(txtX s (numL l s names a).1).length ≤ 720:=by
 have hr:=hd.ok
 have c0:=fun a=>(condS_ok hd l 0 a).2.1
 have c1:=fun a=>(condS_ok hd l 1 a).2.1
 have c2:=fun a=>cond_right hd l 2 a (by omega)
 have c3:=fun a=>(condS_ok hd l 2 a).2.1
 unfold numL at hg ⊢
 split
 ·rename_i h
  rw [if_pos h] at hg
  have:=leaf_tot hr (rig_parts hg) (by show ¬ (6 ≤ (1:Int) ∧ (1:Int) ≤ 9);omega)
  exact Nat.le_trans this (by show 250 + 100 * 1 + 100 * 1 ≤ 720;omega)
 rename_i h
 rw [if_neg h] at hg
 split
 ·rename_i h
  rw [if_pos h] at hg
  have:=leaf_tot hr (rig_parts hg) (by show ¬ (6 ≤ (2:Int) ∧ (2:Int) ≤ 9);omega)
  exact Nat.le_trans this (by show 250 + 100 * 1 + 100 * 1 ≤ 720;omega)
 rename_i h
 rw [if_neg h] at hg
 split
 ·rename_i h
  rw [if_pos h] at hg
  have:=leaf_tot hr (rig_parts hg) (by show ¬ (6 ≤ (4:Int) ∧ (4:Int) ≤ 9);omega)
  refine Nat.le_trans this ?_
  show 250 + 100 * totS (condS l s 1 _).1 + 100 * 1 ≤ 720
  have:=c1 (colD l (nxt l a 6).2 s 3).2
  omega
 rename_i h
 rw [if_neg h] at hg
 split
 ·rename_i h
  rw [if_pos h] at hg
  have:=leaf_tot hr (rig_parts hg) (by show ¬ (6 ≤ (5:Int) ∧ (5:Int) ≤ 9);omega)
  refine Nat.le_trans this ?_
  show 250 + 100 * totS (condS l s 0 _).1 + 100 * 1 ≤ 720
  have:=c0 (colD l (nxt l a 6).2 s 3).2
  omega
 ·have h1:=cnt_tot2 (c2 (nxt l a 6).2).1
  have h2:=c3 (nxt l a 6).2
  refine Nat.le_trans h1 ?_
  omega
theorem pair_len {s:Sch} (o:Int) (h:6 ≤ o ∧ o ≤ 9) (x y:Xpr):(txtX s (.mk o 0 [] 0 [] [] zC zC [x,y])).length = (txtX s x).length + (txtX s y).length + 5:=by
 have htx:=txtX_eq s (.mk o 0 [] 0 [] [] zC zC [x,y])
 have e:(Xpr.mk o 0 [] 0 [] [] zC zC [x,y]).op = o:=rfl
 rw [e,if_neg (by omega),if_neg (by omega),if_pos h] at htx
 rw [htx]
 show ([40] ++ txtX s x ++ sgnX o ++ txtX s y ++ [41]).length = _
 have:=sgnX_len o
 simp only [List.length_append,List.length_cons,List.length_nil]
 omega
theorem numD_len {s:Sch} (hd:Drawn s) (l:List UInt8) (names:List (List UInt8)):∀ d a:Nat,rigS s (numD l s names d a).1 = true → (txtX s (numD l s names d a).1).length + 5 ≤ 725 * 2 ^ d
 | 0,a,hg=>by
  have:=numL_len hd l names a hg
  show (txtX s (numL l s names a).1).length + 5 ≤ 725 * 1
  omega
 | d + 1,a,hg=>by
  unfold numD at hg ⊢
  split
  ·rename_i h
   rw [if_pos h] at hg
   have hp:=rig_parts hg
   have ho:6 ≤ (6 + ((nxt l (nxt l a 2).2 4).1:Int)) ∧ (6 + ((nxt l (nxt l a 2).2 4).1:Int)) ≤ 9:=by
    have:=nxt_lt l (nxt l a 2).2 (n:=4) (by omega)
    omega
   have k1:=(hp.kid _ (List.mem_cons_self ..)).2
   have k2:=(hp.kid _ (List.mem_cons_of_mem _ (List.mem_cons_self ..))).2
   have i1:=numD_len hd l names d _ k1
   have i2:=numD_len hd l names d _ k2
   rw [pair_len _ ho,Nat.pow_succ]
   omega
  ·rename_i h
   rw [if_neg h] at hg
   have:=numL_len hd l names _ hg
   have h2:1 ≤ 2 ^ (d + 1):=Nat.one_le_two_pow
   omega
theorem exprD_len {s:Sch} (hd:Drawn s) (l:List UInt8) (names:List (List UInt8)) (a:Nat) (hg:rigS s (exprD l s names a).1 = true):(txtX s (exprD l s names a).1).length ≤ 2895:=by
 have hr:=hd.ok
 have c0:=fun a=>(condS_ok hd l 0 a).2.1
 have c1:=fun a=>(condS_ok hd l 1 a).2.1
 have n2:=fun a h=>numD_len hd l names 2 a h
 unfold exprD at hg ⊢
 dsimp only at hg ⊢
 split
 ·rename_i h
  rw [if_pos h] at hg
  have:=leaf_tot hr (rig_parts hg) (by show ¬ (6 ≤ (10:Int) ∧ (10:Int) ≤ 9);omega)
  refine Nat.le_trans this ?_
  show 250 + 100 * totS (condS l s 1 _).1 + 100 * 1 ≤ 2895
  have:=c1 (dimsD l (nxt l (colD l a s 3).2 8).2 s).2
  omega
 rename_i h
 rw [if_neg h] at hg
 split
 ·rename_i h
  rw [if_pos h] at hg
  split
  ·rename_i h
   rw [if_pos h] at hg
   have:=leaf_tot hr (rig_parts hg) (by show ¬ (6 ≤ (11:Int) ∧ (11:Int) ≤ 9);omega)
   refine Nat.le_trans this ?_
   show 250 + 100 * totS (condS l s 1 _).1 + 100 * 1 ≤ 2895
   have:=c1 (termsD l (nxt l (colD l a s 3).2 8).2 s (colD l a s 3).1).2
   omega
  ·rename_i h
   rw [if_neg h] at hg
   have:=n2 _ hg
   omega
 rename_i h
 rw [if_neg h] at hg
 split
 ·rename_i h
  rw [if_pos h] at hg
  have:=leaf_tot hr (rig_parts hg) (by show ¬ (6 ≤ (12:Int) ∧ (12:Int) ≤ 9);omega)
  refine Nat.le_trans this ?_
  show 250 + 100 * totS (condS l s 0 _).1 + 100 * totS (condS l s 0 _).1 ≤ 2895
  have h1:=c0 (nxt l (colD l a s 3).2 8).2
  have h2:=c0 (condS l s 0 (nxt l (colD l a s 3).2 8).2).2
  omega
 rename_i h
 rw [if_neg h] at hg
 split
 ·rename_i h
  rw [if_pos h] at hg
  have:=leaf_tot hr (rig_parts hg) (by show ¬ (6 ≤ (13:Int) ∧ (13:Int) ≤ 9);omega)
  refine Nat.le_trans this ?_
  show 250 + 100 * totS (condS l s 1 _).1 + 100 * 1 ≤ 2895
  have:=c1 (nxt l (nxt l (colD l a s 3).2 8).2 (colAt s (colD l a s 3).1).widths.length).2
  omega
 rename_i h
 rw [if_neg h] at hg
 split
 ·rename_i h
  rw [if_pos h] at hg
  have:=leaf_tot hr (rig_parts hg) (by show ¬ (6 ≤ (14:Int) ∧ (14:Int) ≤ 9);omega)
  refine Nat.le_trans this ?_
  show 250 + 100 * totS (condS l s 0 _).1 + 100 * 1 ≤ 2895
  have:=c0 (nxt l (colD l a s 3).2 8).2
  omega
 ·rename_i h
  rw [if_neg h] at hg
  have:=n2 _ hg
  omega
theorem proF_from (l:List UInt8) (s:Sch):∀ (n:Nat) (x:PrD),∀ t ∈ (proF l s x n).l,t ∈ x.l ∨ ∃ names a,t.x = (exprD l s names a).1
 | 0,x,t,h=>.inl h
 | n + 1,x,t,h=>by
  unfold proF at h
  dsimp only at h
  rcases proF_from l s n _ t h with h | h
  ·rcases List.mem_append.1 h with h | h
   ·exact .inl h
   ·rw [List.mem_singleton] at h
    subst h
    exact .inr ⟨_,_,rfl⟩
  ·exact .inr h
theorem proD_txt {s:Sch} (hd:Drawn s) (l:List UInt8) (a:Nat) (most:Int) (h:0 ≤ most ∧ most ≤ 5):(txtP s (proD l a s most).l).length ≤ 15000:=by
 obtain ⟨hok,hlen⟩:=proD_ok hd l a most (by omega)
 have hone:∀ t ∈ (proD l a s most).l,(txtT s t ++ [10]).length ≤ 2930:=by
  intro t ht
  obtain ⟨i,hi,hie⟩:=List.getElem_of_mem ht
  have hit:(proD l a s most).l[i]? = some t:=by rw [List.getElem?_eq_getElem hi,hie]
  obtain ⟨h1,ns,h2,_⟩:=hok.st i t hit
  have hn:=nameB_len (proN_name i (by omega))
  rcases proF_from l s _ _ t ht with h3 | ⟨names,b,h3⟩
  ·cases h3
  ·have h4:=h2.rig
   rw [h3] at h4
   have h5:=exprD_len hd l names b h4
   unfold txtT
   rw [h3,h1]
   simp only [List.length_append,List.length_cons,List.length_nil]
   split <;> simp only [List.length_cons,List.length_nil] <;> omega
 have key:∀ L:List Stm,(∀ t ∈ L,(txtT s t ++ [10]).length ≤ 2930) → (txtP s L).length ≤ 2930 * L.length:=by
  intro L
  induction L with
  | nil=>intro _;exact Nat.le_refl _
  | cons x r ih =>
   intro hL
   have i1:=ih fun t ht=>hL t (List.mem_cons_of_mem _ ht)
   have i2:=hL x (List.mem_cons_self ..)
   have e:txtP s (x :: r) = (txtT s x ++ [10]) ++ txtP s r:=by unfold txtP;rw [List.flatMap_cons]
   rw [e,List.length_append,List.length_cons]
   omega
 have:=key _ hone
 omega
end Go.Proofs.YtjmbhlgocikfiaaGreatDoor
namespace Go.Proofs.YtjmbhlgocikfiaaGreatDoor
open Go Go.Av
attribute [local irreducible] AWp AOps AAny MAny DQ retQ retG St.le FCall GCall
set_option maxRecDepth 100000
def lowB (b:UInt8):Bool:=decide (b.toNat < 128)
theorem lw_W {l:List UInt8} (h:l.all isW = true):l.all lowB = true:=by
 rw [List.all_eq_true] at h ⊢
 intro b hb
 have:=h b hb
 unfold isW at this
 have:=of_decide_eq_true this
 unfold lowB
 rw [decide_eq_true_iff]
 omega
theorem lw_app (a b:List UInt8):(a ++ b).all lowB = (a.all lowB && b.all lowB):=List.all_append
theorem lw_itoa (n:Int):(Lib.itoa n).all lowB = true:=by
 unfold Lib.itoa
 by_cases h:n < 0
 ·rw [if_pos h,List.all_cons]
  obtain ⟨_,d2,_⟩:=digV_dec n.natAbs
  rw [lw_W (by rw [List.all_eq_true] at d2 ⊢;exact fun c hc=>digB_w (d2 c hc))]
  rfl
 ·rw [if_neg h]
  obtain ⟨_,d2,_⟩:=digV_dec n.toNat
  exact lw_W (by rw [List.all_eq_true] at d2 ⊢;exact fun c hc=>digB_w (d2 c hc))
theorem lw_name {nm:List UInt8} (h:nameB nm = true):nm.all lowB = true:=lw_W (name_w h).1
theorem lw_col {s:Sch} (hr:schE s = 0) (k:Int):(colNm s k).all lowB = true:=by
 unfold colNm colAt
 rw [List.getD_eq_getElem?_getD]
 cases hx:s.cols[k.toNat]? with
 | none=>rfl
 | some x=>exact lw_name (col_parts hr hx).1
theorem lw_cod {s:Sch} (hr:schE s = 0) (i k:Int):(codNm s i k).all lowB = true:=by
 unfold codNm lstOf
 rw [List.getD_eq_getElem?_getD,List.getD_eq_getElem?_getD]
 cases hl:s.lists[(colAt s i).lst.toNat]? with
 | none=>rfl
 | some l =>
  rw [Option.getD_some]
  cases hx:l.2[k.toNat]? with
  | none=>rfl
  | some x=>exact lw_name (cod_name hr (List.mem_of_getElem? hl) hx)
theorem lw_const:bUnder.all lowB = true ∧ bFrom.all lowB = true ∧ bTo.all lowB = true ∧ bMiss.all lowB = true ∧ bAnd.all lowB = true ∧ bOr.all lowB = true ∧ bNot.all lowB = true ∧ bAll.all lowB = true ∧ [(40:UInt8)].all lowB = true ∧ [(41:UInt8)].all lowB = true ∧ [(45:UInt8)].all lowB = true ∧ [(47:UInt8)].all lowB = true:=by
 decide
theorem lw_txtS {s:Sch} (hr:schE s = 0) (x:Cnd):(txtS s x).all lowB = true:=by
 obtain ⟨q1,q2,q3,q4,q5,q6,q7,q8,q9,q10,_,_⟩:=lw_const
 refine cnd_ind (p:=fun x=>(txtS s x).all lowB = true) (fun x ih=>?_) x
 have kid:∀ i:Nat,((x.kids.map (txtS s)).getD i []).all lowB = true:=fun i=>by
  rw [List.getD_eq_getElem?_getD,List.getElem?_map]
  cases hk:x.kids[i]? with
  | none=>rfl
  | some k=>exact ih k (List.mem_of_getElem? hk)
 rw [txtS_eq]
 (repeat' split) <;> simp only [lw_app,lw_col hr,lw_cod hr,lw_itoa,kid,q1,q2,q3,q4,q5,q6,q7,q8,q9,q10,Bool.and_true]
theorem lw_nmD {s:Sch} (hr:schE s = 0) (k:Int):(nmD s k).all lowB = true:=by
 unfold nmD
 split
 ·exact (lw_const).2.2.2.2.2.2.2.2.2.2.1
 ·exact lw_col hr k
theorem lw_dimT {s:Sch} (hr:schE s = 0) (d:Pk):(dimT s d).all lowB = true:=by
 unfold dimT
 rw [lw_app,lw_app,lw_nmD hr,lw_itoa,(lw_const).2.2.2.2.2.2.2.2.2.2.2];rfl
theorem lw_jn {sep:List UInt8} (hs:sep.all lowB = true):∀ {l:List (List UInt8)},(∀ x ∈ l,x.all lowB = true) → (jnS sep l).all lowB = true
 | [],_=>rfl
 | [x],h=>h x (by simp)
 | x :: y :: r,h=>by
  rw [jnS,lw_app,lw_app,h x (by simp),hs,lw_jn hs fun z hz=>h z (by simp [hz])];rfl
theorem lw_dims {s:Sch} (hr:schE s = 0) (ds:List Pk):(jnS bCom (ds.map (dimT s))).all lowB = true :=
 lw_jn (by rfl) fun x hx=>by
  obtain ⟨d,_,rfl⟩:=List.mem_map.1 hx
  exact lw_dimT hr d
theorem lw_cols {s:Sch} (hr:schE s = 0) (cs:List Int):(jnS bCom (cs.map (nmD s))).all lowB = true :=
 lw_jn (by rfl) fun x hx=>by
  obtain ⟨d,_,rfl⟩:=List.mem_map.1 hx
  exact lw_nmD hr d
theorem lw_hdX {s:Sch} (hr:schE s = 0) (o k:Int) (ds:List Pk):∀ x ∈ hdX s o k ds,x.all lowB = true:=fun x hx=>by
 unfold hdX at hx
 (repeat' split at hx) <;> simp only [List.mem_cons,List.not_mem_nil,or_false] at hx
 ·rcases hx with rfl | rfl
  ·exact lw_dims hr _
  ·exact lw_nmD hr _
 ·subst hx;exact lw_nmD hr _
theorem lw_mdX {s:Sch} (hr:schE s = 0) (o n:Int) (cs:List Int) (ev:Cnd):∀ x ∈ mdX s o n cs ev,x.all lowB = true:=fun x hx=>by
 unfold mdX at hx
 (repeat' split at hx) <;> simp only [List.mem_cons,List.not_mem_nil,or_false] at hx
 ·subst hx;exact lw_cols hr _
 ·subst hx;exact lw_txtS hr _
 ·subst hx;exact lw_itoa _
theorem lw10_txtX {s:Sch} (hr:schE s = 0) (e:Xpr):rigS s e = true → (txtX s e).all lowB = true:=by
 refine xpr_ind (p:=fun e=>rigS s e = true → (txtX s e).all lowB = true) (fun e ih h=>?_) e
 have hg:=rig_parts h
 have kid:∀ i:Nat,((e.kids.map (txtX s)).getD i []).all lowB = true:=fun i=>by
  rw [List.getD_eq_getElem?_getD,List.getElem?_map]
  cases hk:e.kids[i]? with
  | none=>rfl
  | some k=>exact ih k (List.mem_of_getElem? hk) (hg.kid k (List.mem_of_getElem? hk)).2
 rw [txtX_eq]
 split
 ·exact lw_itoa _
 ·split
  ·rename_i h1 h2
   have hpar:=hg.par
   unfold parB at hpar
   rw [if_neg h1,if_pos h2] at hpar
   exact lw_name hpar
  ·split
   ·have hs:(sgnX e.op).all lowB = true:=by unfold sgnX;(repeat' split) <;> rfl
    simp only [lw_app,kid,hs,Bool.and_true];rfl
   ·have hw:=lw_W (wrd_W e.op).1
    have hj:(jnS bSep (prtX s e.op e.num e.col e.cols e.dims e.evt ++ [txtS s e.cnd])).all lowB = true:=lw_jn (by rfl) fun x hx=>by
     rw [prtX_eq] at hx
     rcases List.mem_append.1 hx with hx | hx
     ·rcases List.mem_append.1 hx with hx | hx
      ·exact lw_hdX hr _ _ _ x hx
      ·exact lw_mdX hr _ _ _ _ x hx
     ·rw [List.mem_singleton] at hx
      subst hx;exact lw_txtS hr _
    simp only [lw_app,hw,hj,Bool.and_true];rfl
theorem lw_txtT {s:Sch} {x:Stm} (h:StmR s x) (hn:x.name.all lowB = true):(txtT s x).all lowB = true:=by
 obtain ⟨hr,hg⟩:=rigX_parts h.rig
 unfold txtT
 simp only [lw_app,hn,lw10_txtX hr x.x hg,Bool.and_true]
 split <;> rfl
theorem lw_txtP {s:Sch} {l:List Stm} (h:(proS s l).2 = 0):(txtP s l).all lowB = true:=by
 have key:schE s = 0 ∧ ∀ x ∈ l,StmR s x ∧ x.name.all lowB = true:=by
  obtain ⟨hr,hs⟩:=pro_stms h
  refine ⟨hr,fun x hx=>⟨(hs x hx).1,?_⟩⟩
  unfold proS at h
  rw [if_pos hr] at h
  split at h
  ·cases h
  ·exact lw_name (proE_stm h x hx).1
 obtain ⟨hr,hs⟩:=key
 clear h
 induction l with
 | nil=>rfl
 | cons x r ih =>
  rw [txtP_cons,lw_app,lw_txtT (hs x (by simp)).1 (hs x (by simp)).2,List.all_cons,ih fun y hy=>hs y (by simp [hy])]
  rfl
end Go.Proofs.YtjmbhlgocikfiaaGreatDoor
