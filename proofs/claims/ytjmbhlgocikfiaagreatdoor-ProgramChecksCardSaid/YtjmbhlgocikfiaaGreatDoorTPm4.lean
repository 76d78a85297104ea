/- Chapter 17: drawn expressions are right; less than what is needed does not do. -/
import Derived.Test.YtjmbhlgocikfiaaGreatDoorTF6
set_option linter.unusedVariables false
set_option linter.unnecessarySimpa false
set_option linter.unusedSimpArgs false
namespace Go.Proofs.YtjmbhlgocikfiaaGreatDoor
open Go Go.Av
attribute [local irreducible] AWp AOps AAny MAny DQ retQ retG St.le FCall GCall
set_option maxRecDepth 100000
theorem asc_len:∀ (l:List Nat) (lo hi:Nat),List.Pairwise (fun a b:Nat=>a < b) l → (∀ x ∈ l,lo ≤ x ∧ x < hi) → lo ≤ hi → l.length ≤ hi - lo
 | [],_,_,_,_,_=>Nat.zero_le _
 | x :: r,lo,hi,hp,hm,_=>by
  obtain ⟨h1,h2⟩:=hm x (by simp)
  have:=asc_len r (x + 1) hi (List.pairwise_cons.1 hp).2 (fun y hy=>⟨(List.pairwise_cons.1 hp).1 y hy,(hm y (by simp [hy])).2⟩) h2
  rw [List.length_cons];omega
theorem colsK_asc (s:Sch) (kind:Int) (k:Nat):List.Pairwise (fun a b:Nat=>a < b) (colsK s kind k):=List.Pairwise.filter _ List.pairwise_lt_range
theorem Drawn.cnt {s:Sch} (hd:Drawn s):(colsK s 2 s.cols.length).length ≤ 3 ∧ (colsK s 3 s.cols.length).length ≤ 3:=by
 obtain ⟨b,ms,h1,h2,h3,h4⟩:=hd.cs
 have hb:(baseC b).length ≤ 3:=by cases b <;> decide
 have hl:s.cols.length = (baseC b).length + ms.length:=by rw [h1,List.length_append]
 have key:∀ i,i < s.cols.length → (i < (baseC b).length ∧ (colAt s i).kind ≠ 3) ∨ ((baseC b).length ≤ i ∧ (colAt s i).kind = 3):=by
  intro i hi
  have hg:s.cols[i]? = some (s.cols[i]'hi):=List.getElem?_eq_getElem hi
  rw [show colAt s (i:Int) = s.cols[i]'hi from colAt_get (by simpa using hg)]
  generalize s.cols[i]'hi = c at *
  rw [h1,List.getElem?_append] at hg
  split at hg
  ·rename_i h5
   refine .inl ⟨h5,?_⟩
   have hm:=List.mem_of_getElem? hg
   cases b
   ·have hm:c ∈ [whoC,sexC]:=hm
    simp only [List.mem_cons,List.not_mem_nil,or_false] at hm
    rcases hm with rfl | rfl <;> decide
   ·have hm:c ∈ [whoC,sexC,jobC]:=hm
    simp only [List.mem_cons,List.not_mem_nil,or_false] at hm
    rcases hm with rfl | rfl | rfl <;> decide
  ·rename_i h5
   exact .inr ⟨by omega,(h4 _ c hg).kind⟩
 constructor
 ·have:=asc_len (colsK s 2 s.cols.length) 0 (baseC b).length (colsK_asc s 2 _) (fun x hx=>by
   obtain ⟨p1,p2⟩:=colsK_mem.1 hx
   rcases key x p1 with h | h
   ·exact ⟨Nat.zero_le _,h.1⟩
   ·rw [p2] at h;exact absurd h.2 (by decide)) (by omega)
  omega
 ·have:=asc_len (colsK s 3 s.cols.length) (baseC b).length s.cols.length (colsK_asc s 3 _) (fun x hx=>by
   obtain ⟨p1,p2⟩:=colsK_mem.1 hx
   rcases key x p1 with h | h
   ·exact absurd p2 h.2
   ·exact ⟨h.1,p1⟩) (by omega)
  omega
theorem dim_nx (l:List UInt8) (a:Nat) {s:Sch} (hd:Drawn s) {c:Nat} (h:c ∈ colsK s 2 s.cols.length):pkE s ⟨c,(nxt l a (finestS s c + 1)).1⟩ = 0:=by
 obtain ⟨h1,h2⟩:=colsK_mem.1 h
 have hf:=fin_cols hd h
 have hlt:=nxt_lt l a (n:=finestS s c + 1) (by omega)
 have hc:1 ≤ (c:Int):=by
  rcases Nat.eq_zero_or_pos c with hz | hz
  ·exfalso
   subst hz
   have hc:s.cols[0]? = some (s.cols[0]'h1):=List.getElem?_eq_getElem h1
   rw [show colAt s ((0:Nat):Int) = s.cols[0]'h1 from colAt_get (by simpa using hc)] at h2
   rcases hd.col hc with ⟨_,e⟩ | ⟨h,_⟩ | ⟨h,_⟩
   ·rw [e] at h2;cases h2
   ·omega
   ·omega
  ·omega
 exact pick_pk hd hc (by dsimp only;omega) (by dsimp only;omega) (by dsimp only;omega)
structure DimsOk (s:Sch) (x:List Pk):Prop where
 ok:∀ q ∈ x,pkE s q = 0 ∧ (colAt s q.col).kind = 2
 asc:List.Pairwise (fun p q:Pk=>p.col < q.col) x
theorem dimF_ok (l:List UInt8) {s:Sch} (hd:Drawn s):∀ (cs:List Nat) (x:List Pk × Nat),(∀ c ∈ cs,c ∈ colsK s 2 s.cols.length) → List.Pairwise (fun a b:Nat=>a < b) cs → DimsOk s x.1 → (∀ q ∈ x.1,∀ c ∈ cs,q.col < (c:Int)) → DimsOk s (dimF l s cs x).1 ∧ (dimF l s cs x).1.length = x.1.length + cs.length
 | [],x,_,_,h,_=>⟨h,rfl⟩
 | c :: r,x,hm,hp,h,hx=>by
  have hc:=hm c (by simp)
  have hk:=dim_nx l x.2 hd hc
  obtain ⟨h1,h2⟩:=dimF_ok l hd r (x.1 ++ [⟨c,(nxt l x.2 (finestS s c + 1)).1⟩],(nxt l x.2 (finestS s c + 1)).2) (fun c' hc'=>hm c' (by simp [hc'])) (List.pairwise_cons.1 hp).2 ⟨fun q hq=>by
    rcases List.mem_append.1 hq with hq | hq
    ·exact h.ok q hq
    ·simp only [List.mem_singleton] at hq
     subst hq
     exact ⟨hk,(colsK_mem.1 hc).2⟩,List.pairwise_append.2 ⟨h.asc,List.pairwise_singleton _ _,fun p hp q hq=>by
      simp only [List.mem_singleton] at hq
      subst hq
      exact hx p hp c (by simp)⟩⟩ (fun q hq c' hc'=>by
    rcases List.mem_append.1 hq with hq | hq
    ·exact hx q hq c' (by simp [hc'])
    ·simp only [List.mem_singleton] at hq
     subst hq
     have:=(List.pairwise_cons.1 hp).1 c' hc'
     dsimp only;omega)
  refine ⟨h1,?_⟩
  show (dimF l s r _).1.length = _
  rw [h2,List.length_append,List.length_cons,List.length_cons,List.length_nil];omega
theorem dimsD_right (l:List UInt8) (a:Nat) {s:Sch} (hd:Drawn s):dimsE s (dimsD l a s).1 = 0:=by
 have h2:=hd.two.1
 have h3:=hd.cnt.1
 have key:DimsOk s (dimsD l a s).1 ∧ 1 ≤ (dimsD l a s).1.length ∧ (dimsD l a s).1.length ≤ 3:=by
  unfold dimsD
  split
  ·have hlt:=nxt_lt l (nxt l a 2).2 (n:=(colsK s 2 s.cols.length).length) (by omega)
   obtain ⟨q1,q2⟩:=dimF_ok l hd ((colsK s 2 s.cols.length).drop (nxt l (nxt l a 2).2 (colsK s 2 s.cols.length).length).1) ([],(nxt l (nxt l a 2).2 (colsK s 2 s.cols.length).length).2) (fun c hc=>List.mem_of_mem_drop hc) ((colsK_asc s 2 _).drop) ⟨fun q hq=>absurd hq (List.not_mem_nil), .nil⟩ (fun q hq=>absurd hq (List.not_mem_nil))
   refine ⟨q1,?_⟩
   rw [q2,List.length_drop,List.length_nil];omega
  ·obtain ⟨q1,q2⟩:=dimF_ok l hd (colsK s 2 s.cols.length) ([],(nxt l a 2).2) (fun c hc=>hc) (colsK_asc s 2 _) ⟨fun q hq=>absurd hq (List.not_mem_nil), .nil⟩ (fun q hq=>absurd hq (List.not_mem_nil))
   refine ⟨q1,?_⟩
   rw [q2,List.length_nil];omega
 generalize (dimsD l a s).1 = x at *
 obtain ⟨hx,hl⟩:=key
 unfold dimsE
 rw [if_neg (by omega)]
 refine firstE_all fun i d hi=>?_
 rw [Nat.zero_add]
 obtain ⟨o1,o2⟩:=hx.ok d (List.mem_of_getElem? hi)
 have op:pickE s d = 0:=by unfold pickE;rw [if_pos hd.ok];exact o1
 have hany:((x.take i).any fun y=>decide (y.col = d.col)) = false:=List.any_eq_false.2 fun y hy=>by
  obtain ⟨j,hj,rfl⟩:=List.getElem_of_mem hy
  rw [List.length_take] at hj
  rw [List.getElem_take]
  have hlt:=lt_of_get hi
  have:=List.pairwise_iff_getElem.1 hx.asc j i (by omega) hlt (by omega)
  have e:x[i]'hlt = d:=by rw [List.getElem?_eq_getElem hlt] at hi;exact Option.some.inj hi
  rw [e] at this
  simp only [decide_eq_true_eq];omega
 unfold dimE
 rw [if_neg (by omega),if_neg (by omega),hany,if_neg (by decide)]
theorem trmF_ok (l:List UInt8) (m:Int) (hi:Nat):∀ (cs:List Nat) (x:List Int × Nat),List.Pairwise (fun a b:Nat=>a < b) cs → (∀ c ∈ cs,∀ q ∈ x.1,q < (c:Int)) → List.Pairwise (fun a b:Int=>a < b) x.1 → (∀ q ∈ x.1,q ≠ m) →
  List.Pairwise (fun a b:Int=>a < b) (trmF l m cs x).1 ∧ (∀ q ∈ (trmF l m cs x).1,q ≠ m ∧ (q ∈ x.1 ∨ ∃ c ∈ cs,q = (c:Int))) ∧ (trmF l m cs x).1.length ≤ x.1.length + cs.length
 | [],x,_,_,h,hm=>⟨h,fun q hq=>⟨hm q hq, .inl hq⟩,Nat.le_refl _⟩
 | c :: r,x,hp,hx,h,hm=>by
  have hadd:∀ a,(c:Int) ≠ m → List.Pairwise (fun a b:Int=>a < b) (trmF l m r (x.1 ++ [(c:Int)],a)).1 ∧ (∀ q ∈ (trmF l m r (x.1 ++ [(c:Int)],a)).1,q ≠ m ∧ (q ∈ x.1 ∨ ∃ c' ∈ c :: r,q = (c':Int))) ∧ (trmF l m r (x.1 ++ [(c:Int)],a)).1.length ≤ x.1.length + (c :: r).length:=fun a hcm=>by
   obtain ⟨h1,h2,h3⟩:=trmF_ok l m hi r (x.1 ++ [(c:Int)],a) (List.pairwise_cons.1 hp).2 (fun c' hc' q hq=>by
     rcases List.mem_append.1 hq with hq | hq
     ·exact hx c' (by simp [hc']) q hq
     ·simp only [List.mem_singleton] at hq
      have:=(List.pairwise_cons.1 hp).1 c' hc'
      omega) (List.pairwise_append.2 ⟨h,List.pairwise_singleton _ _,fun p hp q hq=>by
     simp only [List.mem_singleton] at hq
     have:=hx c (by simp) p hp
     omega⟩) (fun q hq=>by
     rcases List.mem_append.1 hq with hq | hq
     ·exact hm q hq
     ·simp only [List.mem_singleton] at hq;omega)
   refine ⟨h1,fun q hq=>⟨(h2 q hq).1,?_⟩,by rw [List.length_append,List.length_cons,List.length_nil] at h3;rw [List.length_cons];omega⟩
   rcases (h2 q hq).2 with h4 | ⟨c',h4,h5⟩
   ·rcases List.mem_append.1 h4 with h4 | h4
    ·exact .inl h4
    ·simp only [List.mem_singleton] at h4;exact .inr ⟨c,by simp,h4⟩
   ·exact .inr ⟨c',by simp [h4],h5⟩
  have hnot:∀ a,List.Pairwise (fun a b:Int=>a < b) (trmF l m r (x.1,a)).1 ∧ (∀ q ∈ (trmF l m r (x.1,a)).1,q ≠ m ∧ (q ∈ x.1 ∨ ∃ c' ∈ c :: r,q = (c':Int))) ∧ (trmF l m r (x.1,a)).1.length ≤ x.1.length + (c :: r).length:=fun a=>by
   obtain ⟨h1,h2,h3⟩:=trmF_ok l m hi r (x.1,a) (List.pairwise_cons.1 hp).2 (fun c' hc' q hq=>hx c' (by simp [hc']) q hq) h hm
   refine ⟨h1,fun q hq=>⟨(h2 q hq).1,?_⟩,by rw [List.length_cons];dsimp only at h3;omega⟩
   rcases (h2 q hq).2 with h4 | ⟨c',h4,h5⟩
   ·exact .inl h4
   ·exact .inr ⟨c',by simp [h4],h5⟩
  rw [trmF]
  split
  ·split
   ·exact hadd _ (by assumption)
   ·split
    ·exact hadd _ (by assumption)
    ·exact hnot _
  ·exact hnot _
theorem termsD_right (l:List UInt8) (a:Nat) {s:Sch} (hd:Drawn s) (m:Int) (hne:0 < ((termsD l a s m).1.length:Int)):trmsE s m (termsD l a s m).1 = 0:=by
 have h3:=hd.cnt.2
 obtain ⟨q1,q2,q3⟩:=trmF_ok l m 0 (colsK s 3 s.cols.length) ([],a) (colsK_asc s 3 _) (fun c hc q hq=>by cases hq) .nil (fun q hq=>by cases hq)
 unfold termsD at hne ⊢
 generalize (trmF l m (colsK s 3 s.cols.length) ([],a)).1 = x at *
 rw [List.length_nil] at q3
 unfold trmsE
 rw [if_neg (by omega)]
 refine firstE_all fun i c hi=>?_
 rw [Nat.zero_add]
 obtain ⟨o1,o2⟩:=q2 c (List.mem_of_getElem? hi)
 have hb:isB s c 3 = true:=by
  rcases o2 with h | ⟨k,h,rfl⟩
  ·cases h
  ·obtain ⟨p1,p2⟩:=colsK_mem.1 h
   unfold isB
   rw [decide_eq_true_iff]
   exact ⟨by omega,by omega,p2⟩
 have hany:((x.take i).any fun y=>decide (y = c)) = false:=List.any_eq_false.2 fun y hy=>by
  obtain ⟨j,hj,rfl⟩:=List.getElem_of_mem hy
  rw [List.length_take] at hj
  rw [List.getElem_take]
  have hlt:=lt_of_get hi
  have:=List.pairwise_iff_getElem.1 q1 j i (by omega) hlt (by omega)
  have e:x[i]'hlt = c:=by rw [List.getElem?_eq_getElem hlt] at hi;exact Option.some.inj hi
  rw [e] at this
  simp only [decide_eq_true_eq];omega
 unfold trmE
 rw [hb,if_neg (by decide),hany,if_neg (by rintro (h | h);exact o1 h;cases h)]
theorem exprD_ok {s:Sch} (hd:Drawn s) (l:List UInt8) (names:List (List UInt8)) (hn:∀ nm ∈ names,nameB nm = true) (a:Nat):XprOk s names (exprD l s names a).1 2:=by
 have hmo:=meas_ok hd l a
 obtain ⟨w1,w2,w3⟩:=colD_ok (l:=l) (a:=a) hd.two.2
 have hcn:∀ d a',d ≤ 4 → cndE s (condS l s d a').1 = 0:=fun d a' h=>(cond_right hd l d a' h).1
 have hnm:=fun a'=>(numS_ok hd l names hn 2 a').1
 have hdm:=fun a'=>dimsD_right l a' hd
 have htm:=fun a'=>termsD_right l a' hd ((colD l a s 3).1:Int)
 unfold exprD
 generalize (colD l a s 3) = M at *
 obtain ⟨ma,m2⟩:=M
 dsimp only at hmo w1 w2 w3 htm ⊢
 generalize nxt l m2 8 = q at *
 split
 ·refine leaf_ok 2 (rig_leaf (by simp [Xpr.op]) (by simp [Xpr.op,pairP]) ?_ ?_ (fun _=>hcn 1 _ (by omega)) (by simp [Xpr.op,usEvt])) rfl (by simp [Xpr.op])
  ·exact ⟨.inr rfl, .inr rfl, .inl (by simp [Xpr.op,usCol]), .inr rfl, .inl (by simp [Xpr.op,usDims]), .inl (by simp [Xpr.op,usCnd]), .inr zC_emp, .inr rfl⟩
  ·refine (par10 rfl).trans ?_
   rw [Bool.and_eq_true]
   refine ⟨decide_eq_true (hdm _),?_⟩
   show (decide ((if _ then _ else (-1:Int)) = -1) || isB s (if _ then _ else (-1:Int)) 3) = true
   split
   ·rw [hmo,Bool.or_true]
   ·rfl
 ·split
  ·split
   ·refine leaf_ok 2 (rig_leaf (by simp [Xpr.op]) (by simp [Xpr.op,pairP]) ?_ ?_ (fun _=>hcn 1 _ (by omega)) (by simp [Xpr.op,usEvt])) rfl (by simp [Xpr.op])
    ·exact ⟨.inr rfl, .inr rfl, .inl (by simp [Xpr.op,usCol]), .inl rfl, .inr rfl, .inl (by simp [Xpr.op,usCnd]), .inr zC_emp, .inr rfl⟩
    ·refine (par11 rfl).trans ?_
     rw [Bool.and_eq_true]
     exact ⟨hmo,decide_eq_true (htm _ (by assumption))⟩
   ·exact hnm _
  ·split
   ·refine leaf_ok 2 (rig_leaf (by simp [Xpr.op]) (by simp [Xpr.op,pairP]) ?_ ?_ (fun _=>hcn 0 _ (by omega)) (fun _=>hcn 0 _ (by omega))) rfl (by simp [Xpr.op])
    ·exact ⟨.inr rfl, .inr rfl, .inl (by simp [Xpr.op,usCol]), .inr rfl, .inr rfl, .inl (by simp [Xpr.op,usCnd]), .inl rfl, .inr rfl⟩
    ·refine (par12 rfl).trans ?_
     rw [Bool.and_eq_true]
     rename_i h;exact ⟨hmo,decide_eq_true h.2⟩
   ·split
    ·refine leaf_ok 2 (rig_leaf (by simp [Xpr.op]) (by simp [Xpr.op,pairP]) ?_ ?_ (fun _=>hcn 1 _ (by omega)) (by simp [Xpr.op,usEvt])) rfl (by simp [Xpr.op])
     ·exact ⟨.inl (.inr rfl), .inr rfl, .inl (by simp [Xpr.op,usCol]), .inr rfl, .inr rfl, .inl (by simp [Xpr.op,usCnd]), .inr zC_emp, .inr rfl⟩
     ·refine (par13 rfl).trans ?_
      rw [Bool.and_eq_true]
      refine ⟨hmo,List.any_eq_true.2 ⟨_,?_,decide_eq_true rfl⟩⟩
      have hg:s.cols[ma]? = some (s.cols[ma]'w2):=List.getElem?_eq_getElem w2
      have hca:colAt s (ma:Int) = s.cols[ma]'w2:=colAt_get (by simpa using hg)
      have hw:1 ≤ (colAt s ma).widths.length:=by
       rw [hca] at w3 ⊢
       generalize s.cols[ma]'w2 = x at *
       rcases hd.col hg with ⟨_,rfl⟩ | ⟨_,hcc⟩ | ⟨_,nm,hm⟩
       ·cases w3
       ·rcases hcc with rfl | rfl <;> cases w3
       ·have hwd:=hm.wid
        simp only [wOpts,List.mem_cons,List.not_mem_nil,or_false] at hwd
        rcases hwd with h | h | h | h <;> rw [h] <;> decide
      have hlt:=nxt_lt l q.2 (n:=(colAt s ma).widths.length) (by omega)
      show (colAt s ma).widths.getD _ 0 ∈ _
      rw [List.getD_eq_getElem?_getD,List.getElem?_eq_getElem (by omega)]
      exact List.getElem_mem _
    ·split
     ·refine leaf_ok 2 (rig_leaf (by simp [Xpr.op]) (by simp [Xpr.op,pairP]) ?_ ?_ (fun _=>hcn 0 _ (by omega)) (by simp [Xpr.op,usEvt])) rfl (by simp [Xpr.op])
      ·exact ⟨.inr rfl, .inr rfl, .inl (by simp [Xpr.op,usCol]), .inr rfl, .inr rfl, .inl (by simp [Xpr.op,usCnd]), .inr zC_emp, .inr rfl⟩
      ·exact (par4 (by simp [Xpr.op])).trans hmo
     ·exact hnm _
end Go.Proofs.YtjmbhlgocikfiaaGreatDoor
namespace Go.Proofs.YtjmbhlgocikfiaaGreatDoor
open Go Go.Av
attribute [local irreducible] AWp AOps AAny MAny DQ retQ retG St.le FCall GCall
set_option maxRecDepth 100000
theorem proN_name:∀ k,k < 31 → nameB (proN k) = true:=by decide +kernel
structure ProOk (s:Sch) (l:List Stm) (names:List (List UInt8)):Prop where
 len:l.length ≤ 30
 st:∀ (k:Nat) t,l[k]? = some t → t.name = proN k ∧ ∃ ns,XprOk s ns t.x 2 ∧ ∀ nm ∈ ns, ∃ (j:Nat) (u:Stm),j < k ∧ l[j]? = some u ∧ u.name = nm ∧ numP u.x.op
 nm:∀ nm ∈ names, ∃ (j:Nat) (u:Stm),l[j]? = some u ∧ u.name = nm ∧ numP u.x.op
theorem ProOk.names {s:Sch} {l:List Stm} {names:List (List UInt8)} (h:ProOk s l names):∀ nm ∈ names,nameB nm = true:=fun nm hn=>by
 obtain ⟨j,u,h1,h2,_⟩:=h.nm nm hn
 have h3:=(h.st j u h1).1
 have h4:=lt_of_get h1
 rw [← h2,h3]
 exact proN_name j (by have:=h.len;omega)
theorem ProOk.snoc {s:Sch} {l:List Stm} {names:List (List UInt8)} (h:ProOk s l names) (hl:l.length < 30) {e:Xpr} (he:XprOk s names e 2) (o:Bool) :
  ProOk s (l ++ [⟨proN l.length,o,e⟩]) (if e.op < 10 then names ++ [proN l.length] else names):=by
 have old:∀ {j:Nat} {u:Stm},l[j]? = some u → (l ++ [(⟨proN l.length,o,e⟩:Stm)])[j]? = some u:=fun {j u} hj=>by
  rw [List.getElem?_append_left (lt_of_get hj)];exact hj
 refine ⟨by rw [List.length_append,List.length_singleton];omega,fun k t hk=>?_,fun nm hn=>?_⟩
 ·by_cases hlt:k < l.length
  ·rw [List.getElem?_append_left hlt] at hk
   obtain ⟨h1,ns,h2,h3⟩:=h.st k t hk
   refine ⟨h1,ns,h2,fun nm hn=>?_⟩
   obtain ⟨j,u,h4,h5,h6⟩:=h3 nm hn
   exact ⟨j,u,h4,old h5,h6⟩
  ·have hk2:k = l.length:=by
    have:=lt_of_get hk
    rw [List.length_append,List.length_singleton] at this
    omega
   subst hk2
   rw [List.getElem?_append_right (Nat.le_refl _),Nat.sub_self] at hk
   have ht:(⟨proN l.length,o,e⟩:Stm) = t:=by simpa using hk
   subst ht
   refine ⟨rfl,names,he,fun nm hn=>?_⟩
   obtain ⟨j,u,h4,h5⟩:=h.nm nm hn
   exact ⟨j,u,lt_of_get h4,old h4,h5⟩
 ·have hold:∀ nm ∈ names, ∃ (j:Nat) (u:Stm),(l ++ [(⟨proN l.length,o,e⟩:Stm)])[j]? = some u ∧ u.name = nm ∧ numP u.x.op:=fun nm hn=>by
   obtain ⟨j,u,h4,h5⟩:=h.nm nm hn
   exact ⟨j,u,old h4,h5⟩
  split at hn
  ·rename_i hop
   rcases List.mem_append.1 hn with hn | hn
   ·exact hold nm hn
   ·rw [List.mem_singleton] at hn
    refine ⟨l.length,⟨proN l.length,o,e⟩,by rw [List.getElem?_append_right (Nat.le_refl _),Nat.sub_self];rfl,hn.symm,?_⟩
    have:=(rig_parts he.rig).op
    show 1 ≤ e.op ∧ e.op ≤ 9
    omega
  ·exact hold nm hn
theorem proF_ok {s:Sch} (hd:Drawn s) (l:List UInt8):∀ (n:Nat) (x:PrD),ProOk s x.l x.names → x.l.length + n ≤ 30 → ProOk s (proF l s x n).l (proF l s x n).names ∧ (proF l s x n).l.length = x.l.length + n
 | 0,x,h,_=>⟨h,rfl⟩
 | n + 1,x,h,hn=>by
  rw [proF]
  try dsimp only
  have he:=exprD_ok hd l x.names h.names (nxt l x.a 2).2
  have hs:=h.snoc (by omega) he (decide (((nxt l x.a 2).1:Int) = 2 - 1))
  obtain ⟨h1,h2⟩:=proF_ok hd l n ⟨_,_,(exprD l s x.names (nxt l x.a 2).2).2⟩ hs (by dsimp only;rw [List.length_append,List.length_singleton];omega)
  refine ⟨h1,h2.trans ?_⟩
  rw [List.length_append,List.length_singleton];omega
theorem proD_ok {s:Sch} (hd:Drawn s) (l:List UInt8) (a:Nat) (most:Int) (h:0 ≤ most ∧ most ≤ 29):ProOk s (proD l a s most).l (proD l a s most).names ∧ (proD l a s most).l.length ≤ most:=by
 have hlt:=nxt_lt l a (n:=most + 1) (by omega)
 have:=proF_ok hd l (nxt l a (most + 1)).1 ⟨[],[],(nxt l a (most + 1)).2⟩ ⟨by simp,fun k t h=>by simp at h,fun nm h=>by cases h⟩ (by simp only [List.length_nil];omega)
 unfold proD
 refine ⟨this.1,?_⟩
 rw [this.2,List.length_nil]
 omega
end Go.Proofs.YtjmbhlgocikfiaaGreatDoor
