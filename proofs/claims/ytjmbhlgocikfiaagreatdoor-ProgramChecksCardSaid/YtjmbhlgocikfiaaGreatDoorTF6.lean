/- Chapter 17: plain facts on measures and their levels. Chapter 17: drawn expressions are right, and have kinds. Chapter 17: what right expressions need are picks of all columns. -/
import Derived.Test.YtjmbhlgocikfiaaGreatDoorTF3
import Derived.Test.YtjmbhlgocikfiaaGreatDoorTF5
set_option linter.unusedVariables false
set_option linter.unnecessarySimpa false
set_option linter.unusedSimpArgs false
namespace Go.Proofs.YtjmbhlgocikfiaaGreatDoor
open Go Go.Av
attribute [local irreducible] AWp AOps AAny MAny DQ retQ retG St.le FCall GCall
set_option maxRecDepth 100000
theorem rig_mk {s:Sch} {e:Xpr} (h:RigE s e):rigS s e = true:=by
 have hk:e.kids.any (badK s) = false:=List.any_eq_false.2 fun k hk=>by
  obtain ⟨h1,h2⟩:=h.kid k hk
  simp only [badK,decide_eq_true h1,h2]
  decide
 rw [rigS_eq,hk]
 unfold oneX
 have e4:(decide (¬ usCnd e.op) || decide (cndE s e.cnd = 0)) = true:=by
  by_cases hc:usCnd e.op
  ·rw [decide_eq_true (h.cnd hc)];simp
  ·rw [decide_eq_true hc];rfl
 have e5:(decide (¬ usEvt e.op) || decide (cndE s e.evt = 0)) = true:=by
  by_cases hc:usEvt e.op
  ·rw [decide_eq_true (h.evt hc)];simp
  ·rw [decide_eq_true hc];rfl
 have e6:(decide (¬ pairP e.op) || decide (e.kids.length = 2)) = true:=by
  by_cases hc:pairP e.op
  ·rw [decide_eq_true (h.pair hc)];simp
  ·rw [decide_eq_true hc];rfl
 rw [decide_eq_true h.op,decide_eq_true h.unu,h.par,e4,e5,e6];rfl
theorem zC_emp:empP zC:=⟨rfl,rfl,rfl,rfl,rfl,rfl⟩
structure XprOk (s:Sch) (names:List (List UInt8)) (e:Xpr) (d:Nat):Prop where
 rig:rigS s e = true
 tot:totS (treeX e) + 1 ≤ 2 ^ (d + 1)
 dep:depS (treeX e) ≤ d + 1
 nam:∀ g:List UInt8 → Bool,(∀ nm ∈ names,g nm = true) → namS g e = true
 kin:∀ bs:List Bnd,(∀ nm ∈ names,bndK bs nm = (1,0)) → (kinS bs e).2 = 0 ∧ (numP e.op → (kinS bs e).1 = 1)
theorem leaf_ok {s:Sch} {names:List (List UInt8)} {e:Xpr} (d:Nat) (h:RigE s e) (hk:e.kids = []) (ho:e.op = 2 → e.name ∈ names):XprOk s names e d:=by
 have hp:2 ≤ 2 ^ (d + 1):=by rw [Nat.pow_succ];have:=Nat.one_le_two_pow (n:=d);omega
 refine ⟨rig_mk h,?_,?_,fun g hg=>?_,fun bs hb=>?_⟩
 ·rw [totS_eq,tree_kids,hk];simpa [totL] using hp
 ·rw [depS_eq,tree_kids,hk];simp [depL]
 ·rw [namS_eq,hk]
  by_cases h2:e.op = 2
  ·rw [hg _ (ho h2)];simp
  ·rw [decide_eq_false h2];rfl
 ·rw [kinS_eq,hk,show kinL bs [] true = (0,true) from rfl]
  dsimp only
  rw [if_pos rfl]
  unfold endK
  by_cases h2:e.op = 2
  ·rw [if_pos h2,hb _ (ho h2)];exact ⟨rfl,fun _=>rfl⟩
  ·rw [if_neg h2,if_neg (by decide)]
   split
   ·exact ⟨rfl,fun _=>rfl⟩
   ·exact ⟨rfl,fun h=>absurd h (by assumption)⟩
theorem meas_ok {s:Sch} (hd:Drawn s) (l:List UInt8) (a:Nat):isB s ((colD l a s 3).1:Nat) 3 = true:=by
 obtain ⟨_,h1,h2⟩:=colD_ok (l:=l) (a:=a) hd.two.2
 unfold isB
 rw [decide_eq_true_iff]
 exact ⟨by omega,by omega,h2⟩
theorem rig_leaf {s:Sch} {e:Xpr} (h1:1 ≤ e.op ∧ e.op ≤ 14) (h2:¬ pairP e.op) (hu:unuX e) (hp:parB s e = true) (hc:usCnd e.op → cndE s e.cnd = 0) (hv:usEvt e.op → cndE s e.evt = 0):RigE s e :=
 ⟨h1,hu,hp,hc,hv,fun h=>absurd h h2,fun k hk=>by
  rcases hu.2.2.2.2.2.2.2 with h | h
  ·exact absurd h h2
  ·rw [List.eq_nil_of_length_eq_zero h] at hk;cases hk⟩
theorem par1 {s:Sch} {e:Xpr} (h:e.op = 1):parB s e = decide (-1099511627776 ≤ e.num ∧ e.num ≤ 1099511627776):=by unfold parB;rw [if_pos h]
theorem par2 {s:Sch} {e:Xpr} (h:e.op = 2):parB s e = nameB e.name:=by unfold parB;rw [if_neg (by omega),if_pos h]
theorem par4 {s:Sch} {e:Xpr} (h:e.op = 4 ∨ e.op = 5 ∨ e.op = 14):parB s e = isB s e.col 3:=by unfold parB;rw [if_neg (by omega),if_neg (by omega),if_pos h]
theorem par10 {s:Sch} {e:Xpr} (h:e.op = 10):parB s e = (decide (dimsE s e.dims = 0) && (decide (e.col = -1) || isB s e.col 3)):=by unfold parB;rw [if_neg (by omega),if_neg (by omega),if_neg (by omega),if_pos h]
theorem par11 {s:Sch} {e:Xpr} (h:e.op = 11):parB s e = (isB s e.col 3 && decide (trmsE s e.col e.cols = 0)):=by unfold parB;rw [if_neg (by omega),if_neg (by omega),if_neg (by omega),if_neg (by omega),if_pos h]
theorem par12 {s:Sch} {e:Xpr} (h:e.op = 12):parB s e = (isB s e.col 3 && decide (0 ≤ (colAt s e.col).low)):=by unfold parB;rw [if_neg (by omega),if_neg (by omega),if_neg (by omega),if_neg (by omega),if_neg (by omega),if_pos h]
theorem par13 {s:Sch} {e:Xpr} (h:e.op = 13):parB s e = (isB s e.col 3 && (colAt s e.col).widths.any fun x=>decide (x = e.num)):=by unfold parB;rw [if_neg (by omega),if_neg (by omega),if_neg (by omega),if_neg (by omega),if_neg (by omega),if_neg (by omega),if_pos h]
theorem par3 {s:Sch} {e:Xpr} (h:e.op = 3 ∨ 6 ≤ e.op ∧ e.op ≤ 9):parB s e = true:=by unfold parB;rw [if_neg (by omega),if_neg (by omega),if_neg (by omega),if_neg (by omega),if_neg (by omega),if_neg (by omega),if_neg (by omega)]
theorem numL_ok {s:Sch} (hd:Drawn s) (l:List UInt8) (names:List (List UInt8)) (hn:∀ nm ∈ names,nameB nm = true) (d a:Nat):XprOk s names (numL l s names a).1 d ∧ numP (numL l s names a).1.op:=by
 unfold numL
 have h40:=nxt_lt l (nxt l a 6).2 (n:=40) (by omega)
 have hmo:=meas_ok hd l (nxt l a 6).2
 have c1:=(cond_right hd l 1 (colD l (nxt l a 6).2 s 3).2 (by omega)).1
 have c0:=(cond_right hd l 0 (colD l (nxt l a 6).2 s 3).2 (by omega)).1
 have c2:=(cond_right hd l 2 (nxt l a 6).2 (by omega)).1
 split
 ·refine ⟨leaf_ok d (rig_leaf (by simp [Xpr.op]) (by simp [Xpr.op,pairP]) ?_ ?_ (by simp [Xpr.op,usCnd]) (by simp [Xpr.op,usEvt])) rfl (by simp [Xpr.op]),by simp [Xpr.op,numP]⟩
  ·exact ⟨.inl (.inl rfl), .inr rfl, .inr rfl, .inr rfl, .inr rfl, .inr zC_emp, .inr zC_emp, .inr rfl⟩
  ·refine (par1 rfl).trans (decide_eq_true ?_)
   dsimp only [Xpr.num]
   omega
 ·split
  ·rename_i h2
   have hlt:=nxt_lt l (nxt l a 6).2 (n:=(names.length:Int)) (by omega)
   have hm:names.getD (nxt l (nxt l a 6).2 names.length).1 [] ∈ names:=by
    rw [List.getD_eq_getElem?_getD,List.getElem?_eq_getElem (by omega)]
    exact List.getElem_mem _
   refine ⟨leaf_ok d (rig_leaf (by simp [Xpr.op]) (by simp [Xpr.op,pairP]) ?_ ?_ (by simp [Xpr.op,usCnd]) (by simp [Xpr.op,usEvt])) rfl (fun _=>hm),by simp [Xpr.op,numP]⟩
   ·exact ⟨.inr rfl, .inl rfl, .inr rfl, .inr rfl, .inr rfl, .inr zC_emp, .inr zC_emp, .inr rfl⟩
   ·exact (par2 rfl).trans (hn _ hm)
  ·split
   ·refine ⟨leaf_ok d (rig_leaf (by simp [Xpr.op]) (by simp [Xpr.op,pairP]) ?_ ?_ (fun _=>c1) (by simp [Xpr.op,usEvt])) rfl (by simp [Xpr.op]),by simp [Xpr.op,numP]⟩
    ·exact ⟨.inr rfl, .inr rfl, .inl (by simp [Xpr.op,usCol]), .inr rfl, .inr rfl, .inl (by simp [Xpr.op,usCnd]), .inr zC_emp, .inr rfl⟩
    ·exact (par4 (by simp [Xpr.op])).trans hmo
   ·split
    ·refine ⟨leaf_ok d (rig_leaf (by simp [Xpr.op]) (by simp [Xpr.op,pairP]) ?_ ?_ (fun _=>c0) (by simp [Xpr.op,usEvt])) rfl (by simp [Xpr.op]),by simp [Xpr.op,numP]⟩
     ·exact ⟨.inr rfl, .inr rfl, .inl (by simp [Xpr.op,usCol]), .inr rfl, .inr rfl, .inl (by simp [Xpr.op,usCnd]), .inr zC_emp, .inr rfl⟩
     ·exact (par4 (by simp [Xpr.op])).trans hmo
    ·refine ⟨leaf_ok d (rig_leaf (by simp [Xpr.op]) (by simp [Xpr.op,pairP]) ?_ ?_ (fun _=>c2) (by simp [Xpr.op,usEvt])) rfl (by simp [Xpr.op]),by simp [Xpr.op,numP]⟩
     ·exact ⟨.inr rfl, .inr rfl, .inr rfl, .inr rfl, .inr rfl, .inl (by simp [Xpr.op,usCnd]), .inr zC_emp, .inr rfl⟩
     ·exact par3 (.inl rfl)
theorem pair_ok {s:Sch} {names:List (List UInt8)} {x y:Xpr} {d:Nat} (o:Int) (ho:6 ≤ o ∧ o ≤ 9) (hx:XprOk s names x d) (hy:XprOk s names y d) (px:numP x.op) (py:numP y.op):XprOk s names (.mk o 0 [] 0 [] [] zC zC [x,y]) (d + 1):=by
 have hp:2 ^ (d + 1 + 1) = 2 * 2 ^ (d + 1):=by rw [Nat.pow_succ];omega
 refine ⟨rig_mk ⟨?_,?_,?_,?_,?_,fun _=>rfl,?_⟩,?_,?_,fun g hg=>?_,fun bs hb=>?_⟩
 ·dsimp only [Xpr.op];omega
 ·exact ⟨.inr rfl, .inr rfl, .inr rfl, .inr rfl, .inr rfl, .inr zC_emp, .inr zC_emp, .inl ho⟩
 ·exact par3 (.inr ho)
 ·intro h;simp only [usCnd,Xpr.op] at h;omega
 ·intro h;simp only [usEvt,Xpr.op] at h;omega
 ·intro k hk
  simp only [Xpr.kids,List.mem_cons,List.not_mem_nil,or_false] at hk
  rcases hk with rfl | rfl
  ·exact ⟨px,hx.rig⟩
  ·exact ⟨py,hy.rig⟩
 ·rw [totS_eq,tree_kids]
  have h1:=hx.tot;have h2:=hy.tot
  simp only [Xpr.kids,List.map_cons,List.map_nil,totL];omega
 ·rw [depS_eq,tree_kids]
  have h1:=hx.dep;have h2:=hy.dep
  simp only [Xpr.kids,List.map_cons,List.map_nil,depL];omega
 ·have e1:¬ (Xpr.mk o 0 [] 0 [] [] zC zC [x,y]).op = 2:=by show ¬ o = 2;omega
  have e2:((Xpr.mk o 0 [] 0 [] [] zC zC [x,y]).kids.any fun k=>!namS g k) = false:=by
   show ([x,y].any fun k=>!namS g k) = false
   simp [hx.nam g hg,hy.nam g hg]
  rw [namS_eq,decide_eq_false e1,e2];rfl
 ·obtain ⟨a1,a2⟩:=hx.kin bs hb
  obtain ⟨b1,b2⟩:=hy.kin bs hb
  have e:kinL bs (Xpr.mk o 0 [] 0 [] [] zC zC [x,y]).kids true = (0,true):=by
   show kinL bs [x,y] true = (0,true)
   rw [kinL,if_pos a1,kinL,if_pos b1,a2 px,b2 py];rfl
  have e1:¬ (Xpr.mk o 0 [] 0 [] [] zC zC [x,y]).op = 2:=by show ¬ o = 2;omega
  have e2:numP (Xpr.mk o 0 [] 0 [] [] zC zC [x,y]).op:=by show 1 ≤ o ∧ o ≤ 9;omega
  rw [kinS_eq,e,if_pos rfl]
  unfold endK
  rw [if_neg e1,if_neg (by decide),if_pos e2]
  exact ⟨rfl,fun _=>rfl⟩
theorem numS_ok {s:Sch} (hd:Drawn s) (l:List UInt8) (names:List (List UInt8)) (hn:∀ nm ∈ names,nameB nm = true):∀ d a:Nat,XprOk s names (numD l s names d a).1 d ∧ numP (numD l s names d a).1.op
 | 0,a=>numL_ok hd l names hn 0 a
 | d + 1,a=>by
  unfold numD
  split
  ·have h4:=nxt_lt l (nxt l a 2).2 (n:=4) (by omega)
   obtain ⟨x1,x2⟩:=numS_ok hd l names hn d (nxt l (nxt l a 2).2 4).2
   obtain ⟨y1,y2⟩:=numS_ok hd l names hn d (numD l s names d (nxt l (nxt l a 2).2 4).2).2
   exact ⟨pair_ok _ (by omega) x1 y1 x2 y2,by simp only [Xpr.op,numP];omega⟩
  ·exact numL_ok hd l names hn (d + 1) (nxt l a 2).2
theorem Drawn.fin {s:Sch} (hd:Drawn s) {c:Int} (h1:1 ≤ c) (h2:c < s.cols.length):0 ≤ finestS s c ∧ finestS s c ≤ 4 ∧ finestS s c = finS s c:=by
 obtain ⟨n,h3,h4,_⟩:=hd.chain (i:=c.toNat) (by omega) (List.getElem?_eq_getElem (show c.toNat < s.cols.length by omega))
 rw [show ((c.toNat:Nat):Int) = c by omega] at h3
 exact ⟨by omega,by omega,by unfold finestS;rw [if_pos hd.ok]⟩
theorem pick_pk {s:Sch} (hd:Drawn s) {q:Pk} (h1:1 ≤ q.col) (h2:q.col < s.cols.length) (h3:0 ≤ q.lev) (h4:q.lev ≤ finestS s q.col):pkE s q = 0:=by
 have hf:=hd.fin h1 h2
 unfold pkE
 rw [if_neg (by omega),if_neg (by omega)]
end Go.Proofs.YtjmbhlgocikfiaaGreatDoor
