/- Chapter 17: drawn programs are right, and have the same kinds over any picks that suffice. -/
import Derived.Test.YtjmbhlgocikfiaaGreatDoorRPm3
set_option linter.unusedVariables false
set_option linter.unnecessarySimpa false
set_option linter.unusedSimpArgs false
namespace Go.Proofs.YtjmbhlgocikfiaaGreatDoor
open Go Go.Av
attribute [local irreducible] AWp AOps AAny MAny DQ retQ retG St.le FCall GCall
set_option maxRecDepth 100000
theorem proN_name:∀ k,k < 31 → nameB (proN k) = true:=by decide +kernel
theorem proN_inj:∀ i,i < 31 → ∀ j,j < 31 → proN i = proN j → i = j:=by decide +kernel
structure ProOk (s:Sch) (l:List Stm) (names:List (List UInt8)):Prop where
 len:l.length ≤ 30
 st:∀ (k:Nat) t,l[k]? = some t → t.name = proN k ∧ ∃ ns,XprOk s ns t.x 2 ∧ ∀ nm ∈ ns, ∃ (j:Nat) (u:Stm),j < k ∧ l[j]? = some u ∧ u.name = nm ∧ numP u.x.op
 nm:∀ nm ∈ names, ∃ (j:Nat) (u:Stm),l[j]? = some u ∧ u.name = nm ∧ numP u.x.op
theorem ProOk.names {s:Sch} {l:List Stm} {names:List (List UInt8)} (h:ProOk s l names):∀ nm ∈ names,nameB nm = true:=fun nm hn=>by
 obtain ⟨j,u,h1,h2,_⟩:=h.nm nm hn
 have h3:=(h.st j u h1).1
 have h4:=lt_of_get h1
 rw [← h2,h3]
 exact proN_name j (by have:=h.len;omega)
theorem ProOk.snoc {s:Sch} {l:List Stm} {names:List (List UInt8)} (h:ProOk s l names) (hl:l.length < 30) {e:Xpr} (he:XprOk s names e 2) (o:Bool) :
  ProOk s (l ++ [⟨proN l.length,o,e⟩]) (if e.op < 10 then names ++ [proN l.length] else names):=by
 have old:∀ {j:Nat} {u:Stm},l[j]? = some u → (l ++ [(⟨proN l.length,o,e⟩:Stm)])[j]? = some u:=fun {j u} hj=>by
  rw [List.getElem?_append_left (lt_of_get hj)];exact hj
 refine ⟨by rw [List.length_append,List.length_singleton];omega,fun k t hk=>?_,fun nm hn=>?_⟩
 ·by_cases hlt:k < l.length
  ·rw [List.getElem?_append_left hlt] at hk
   obtain ⟨h1,ns,h2,h3⟩:=h.st k t hk
   refine ⟨h1,ns,h2,fun nm hn=>?_⟩
   obtain ⟨j,u,h4,h5,h6⟩:=h3 nm hn
   exact ⟨j,u,h4,old h5,h6⟩
  ·have hk2:k = l.length:=by
    have:=lt_of_get hk
    rw [List.length_append,List.length_singleton] at this
    omega
   subst hk2
   rw [List.getElem?_append_right (Nat.le_refl _),Nat.sub_self] at hk
   have ht:(⟨proN l.length,o,e⟩:Stm) = t:=by simpa using hk
   subst ht
   refine ⟨rfl,names,he,fun nm hn=>?_⟩
   obtain ⟨j,u,h4,h5⟩:=h.nm nm hn
   exact ⟨j,u,lt_of_get h4,old h4,h5⟩
 ·have hold:∀ nm ∈ names, ∃ (j:Nat) (u:Stm),(l ++ [(⟨proN l.length,o,e⟩:Stm)])[j]? = some u ∧ u.name = nm ∧ numP u.x.op:=fun nm hn=>by
   obtain ⟨j,u,h4,h5⟩:=h.nm nm hn
   exact ⟨j,u,old h4,h5⟩
  split at hn
  ·rename_i hop
   rcases List.mem_append.1 hn with hn | hn
   ·exact hold nm hn
   ·rw [List.mem_singleton] at hn
    refine ⟨l.length,⟨proN l.length,o,e⟩,by rw [List.getElem?_append_right (Nat.le_refl _),Nat.sub_self];rfl,hn.symm,?_⟩
    have:=(rig_parts he.rig).op
    show 1 ≤ e.op ∧ e.op ≤ 9
    omega
  ·exact hold nm hn
theorem proF_ok {s:Sch} (hd:Drawn s) (l:List UInt8):∀ (n:Nat) (x:PrD),ProOk s x.l x.names → x.l.length + n ≤ 30 → ProOk s (proF l s x n).l (proF l s x n).names ∧ (proF l s x n).l.length = x.l.length + n
 | 0,x,h,_=>⟨h,rfl⟩
 | n + 1,x,h,hn=>by
  rw [proF]
  try dsimp only
  have he:=exprD_ok hd l x.names h.names (nxt l x.a 2).2
  have hs:=h.snoc (by omega) he (decide (((nxt l x.a 2).1:Int) = 2 - 1))
  obtain ⟨h1,h2⟩:=proF_ok hd l n ⟨_,_,(exprD l s x.names (nxt l x.a 2).2).2⟩ hs (by dsimp only;rw [List.length_append,List.length_singleton];omega)
  refine ⟨h1,h2.trans ?_⟩
  rw [List.length_append,List.length_singleton];omega
theorem proD_ok {s:Sch} (hd:Drawn s) (l:List UInt8) (a:Nat) (most:Int) (h:0 ≤ most ∧ most ≤ 29):ProOk s (proD l a s most).l (proD l a s most).names ∧ (proD l a s most).l.length ≤ most:=by
 have hlt:=nxt_lt l a (n:=most + 1) (by omega)
 have:=proF_ok hd l (nxt l a (most + 1)).1 ⟨[],[],(nxt l a (most + 1)).2⟩ ⟨by simp,fun k t h=>by simp at h,fun nm h=>by cases h⟩ (by simp only [List.length_nil];omega)
 unfold proD
 refine ⟨this.1,?_⟩
 rw [this.2,List.length_nil]
 omega
theorem pro_step {s:Sch} (hd:Drawn s) {l:List Stm} {names:List (List UInt8)} (h:ProOk s l names) {k:Nat} {t:Stm} (hk:l[k]? = some t):stmE s (l.take k) t = 0:=by
 obtain ⟨h1,ns,h2,h3⟩:=h.st k t hk
 have hkl:=lt_of_get hk
 have hl:=h.len
 have e1:nameB t.name = true:=by rw [h1];exact proN_name k (by omega)
 have e2:knoB (l.take k) t.name = false:=by
  refine List.any_eq_false.2 fun y hy=>?_
  obtain ⟨j,hj,hje⟩:=List.getElem_of_mem hy
  rw [List.length_take] at hj
  have hjl:l[j]? = some y:=by
   rw [← hje,List.getElem_take,List.getElem?_eq_getElem (by omega)]
  have:=(h.st j y hjl).1
  rw [decide_eq_true_iff,this,h1]
  intro he
  have:=proN_inj j (by omega) k (by omega) he
  omega
 have e3:namS (knoB (l.take k)) t.x = true:=h2.nam _ fun nm hn=>by
  obtain ⟨j,u,h4,h5,h6,_⟩:=h3 nm hn
  refine List.any_eq_true.2 ⟨u,?_,decide_eq_true h6⟩
  have hm:(l.take k)[j]? = some u:=by rw [List.getElem?_take,if_pos h4];exact h5
  exact List.mem_of_getElem? hm
 have h4:=h2.tot
 have h5:=h2.dep
 have e4:rigX s t.x = true:=by
  unfold rigX
  rw [decide_eq_true hd.ok,h2.rig];rfl
 unfold stmE
 rw [e1,e2,e3,e4,if_neg (by simp),if_neg (by simp),if_neg (by omega),if_neg (by omega),if_neg (by simp),if_neg (by simp)]
theorem pro_right {s:Sch} (hd:Drawn s) {l:List Stm} {names:List (List UInt8)} (h:ProOk s l names):proS s l = (((l.length:Nat):Int),(0:Int)):=by
 have key:∀ (n k:Nat),k + n = l.length → proE s l k (l.drop k) = (((l.length:Nat):Int),(0:Int)):=by
  intro n
  induction n with
  | zero =>
   intro k hk
   rw [show k = l.length by omega,List.drop_length,proE]
  | succ n ih =>
   intro k hk
   obtain ⟨t,ht⟩:∃ t,l[k]? = some t:=⟨_,List.getElem?_eq_getElem (by omega)⟩
   rw [dropc ht,proE,if_pos (pro_step hd h ht)]
   exact ih (k + 1) (by omega)
 unfold proS
 rw [if_pos hd.ok,if_neg (by have:=h.len;omega)]
 simpa using key l.length 0 (by omega)
end Go.Proofs.YtjmbhlgocikfiaaGreatDoor
namespace Go.Proofs.YtjmbhlgocikfiaaGreatDoor
open Go Go.Av
attribute [local irreducible] AWp AOps AAny MAny DQ retQ retG St.le FCall GCall
set_option maxRecDepth 100000
def chain (s:Sch):List Stm → List Stm → Prop
 | _,[]=>True
 | pre,t :: r=>stmE s pre t = 0 ∧ chain s (pre ++ [t]) r
def prS (s:Sch):List Stm → List Stm → Int × Int
 | pre,[]=>(((pre.length:Nat):Int),0)
 | pre,t :: r=>if stmE s pre t = 0 then prS s (pre ++ [t]) r else (((pre.length:Nat):Int),stmE s pre t)
theorem proE_prS (s:Sch):∀ (l pre L:List Stm),L = pre ++ l → proE s L pre.length l = prS s pre l
 | [],pre,L,h=>rfl
 | t :: r,pre,L,h=>by
  have e:L.take pre.length = pre:=by rw [h];exact List.take_left
  rw [proE,prS,e]
  split
  ·have:=proE_prS s r (pre ++ [t]) L (by rw [h];simp)
   rw [List.length_append,List.length_singleton] at this
   exact this
  ·rfl
theorem proS_prS {s:Sch} (hr:schE s = 0) {l:List Stm} (h:l.length ≤ 30):proS s l = prS s [] l:=by
 unfold proS
 rw [if_pos hr,if_neg (by omega)]
 exact proE_prS s l [] l rfl
theorem prS_chain {s:Sch}:∀ (a pre b:List Stm),chain s pre a → prS s pre (a ++ b) = prS s (pre ++ a) b
 | [],pre,b,_=>by simp
 | t :: r,pre,b,h=>by
  rw [List.cons_append,prS,if_pos h.1,prS_chain r _ b h.2,List.append_assoc];rfl
theorem prS_all {s:Sch} {l:List Stm} (h:chain s [] l):prS s [] l = (((l.length:Nat):Int),0):=by
 have:=prS_chain l [] [] h
 rw [List.append_nil] at this
 rw [this];rfl
theorem chain_of {s:Sch}:∀ (l pre:List Stm),(∀ (i:Nat) t,l[i]? = some t → stmE s (pre ++ l.take i) t = 0) → chain s pre l
 | [],_,_=>trivial
 | t :: r,pre,h=>by
  refine ⟨by have:=h 0 t rfl;simpa using this,chain_of r _ fun i u hu=>?_⟩
  have:=h (i + 1) u (by simpa using hu)
  rw [List.take_succ_cons] at this
  rw [List.append_assoc];exact this
theorem chain_app {s:Sch}:∀ (a pre b:List Stm),chain s pre (a ++ b) → chain s pre a ∧ chain s (pre ++ a) b
 | [],pre,b,h=>⟨trivial,by rw [List.append_nil];exact h⟩
 | t :: r,pre,b,h=>by
  obtain ⟨h1,h2⟩:=chain_app r _ b h.2
  refine ⟨⟨h.1,h1⟩,?_⟩
  rw [List.append_assoc] at h2
  exact h2
theorem chain_join {s:Sch}:∀ (a pre b:List Stm),chain s pre a → chain s (pre ++ a) b → chain s pre (a ++ b)
 | [],pre,b,_,h=>by rw [List.append_nil] at h;exact h
 | t :: r,pre,b,h1,h2=>⟨h1.1,chain_join r _ b h1.2 (by rw [List.append_assoc];exact h2)⟩
theorem namS_mono {g g':List UInt8 → Bool} (hg:∀ nm,g nm = true → g' nm = true) (e:Xpr):namS g e = true → namS g' e = true:=by
 refine xpr_ind (p:=fun e=>namS g e = true → namS g' e = true) (fun e ih h=>?_) e
 rw [namS_eq] at h ⊢
 simp only [Bool.and_eq_true,Bool.not_eq_true'] at h ⊢
 obtain ⟨h1,h2⟩:=h
 refine ⟨?_,List.any_eq_false.2 fun k hk=>?_⟩
 ·by_cases ho:e.op = 2
  ·rw [decide_eq_true ho,Bool.true_and] at h1 ⊢
   have h3:g e.name = true:=by simpa using h1
   rw [hg _ h3];rfl
  ·rw [decide_eq_false ho,Bool.false_and]
 ·have h3:=List.any_eq_false.1 h2 k hk
  have h4:namS g k = true:=by simpa using h3
  rw [ih k hk h4];simp
theorem stmE_known {s:Sch} {b:List Stm} {t:Stm} (h:stmE s b t = 0):knoB b t.name = false:=by
 unfold stmE at h
 split at h
 ·cases h
 split at h
 ·cases h
 ·rename_i hk;simpa using hk
theorem stmE_mono {s:Sch} {b b':List Stm} {t:Stm} (h:stmE s b t = 0) (h1:knoB b' t.name = false) (h2:∀ nm,knoB b nm = true → knoB b' nm = true):stmE s b' t = 0:=by
 have hk:=stmE_known h
 unfold stmE at h ⊢
 rw [hk] at h
 rw [h1]
 split at h
 ·cases h
 rename_i a1
 rw [if_neg a1,if_neg Bool.false_ne_true]
 rw [if_neg Bool.false_ne_true] at h
 split at h
 ·cases h
 rename_i a2
 rw [if_neg a2]
 split at h
 ·cases h
 rename_i a3
 rw [if_neg a3]
 split at h
 ·cases h
 rename_i a4
 rw [if_neg a4]
 split at h
 ·cases h
 rename_i a5
 rw [if_neg]
 intro a6
 have:=namS_mono h2 t.x (by simpa using a5)
 rw [this] at a6
 cases a6
theorem kno_app (a b:List Stm) (nm:List UInt8):knoB (a ++ b) nm = (knoB a nm || knoB b nm):=List.any_append
theorem chain_mono {s:Sch}:∀ (l pre pre':List Stm),chain s pre l → (∀ nm,knoB pre nm = true → knoB pre' nm = true) → (∀ t ∈ l,knoB pre' t.name = true → knoB pre t.name = true) → chain s pre' l
 | [],_,_,_,_,_=>trivial
 | t :: r,pre,pre',h,h1,h2=>by
  have hk:=stmE_known h.1
  refine ⟨stmE_mono h.1 ?_ h1,chain_mono r (pre ++ [t]) (pre' ++ [t]) h.2 (fun nm hn=>?_) fun u hu hn=>?_⟩
  ·cases hb:knoB pre' t.name
   ·rfl
   ·rw [h2 t (by simp) hb] at hk;cases hk
  ·rw [kno_app,Bool.or_eq_true] at hn ⊢
   exact hn.imp (h1 nm) id
  ·rw [kno_app,Bool.or_eq_true] at hn ⊢
   exact hn.imp (h2 u (List.mem_cons_of_mem _ hu)) id
abbrev bDef:List UInt8:=[100,101,102,105,110,101,100]
abbrev bUse:List UInt8:=[117,115,101,114]
def defP:Stm:=⟨bDef,false, .mk 1 4 [] 0 [] [] zC zC []⟩
def useP:Stm:=⟨bUse,false, .mk 2 0 bDef 0 [] [] zC zC []⟩
theorem proN_kno {s:Sch} {l:List Stm} {names:List (List UInt8)} (h:ProOk s l names) (nm:List UInt8) (hn:nm = bDef ∨ nm = bUse):∀ t ∈ l,t.name ≠ nm:=by
 intro t ht he
 obtain ⟨i,hi,hie⟩:=List.getElem_of_mem ht
 have h1:=(h.st i t (by rw [List.getElem?_eq_getElem hi,hie])).1
 have h2:proN i = 118 :: itoaN i:=rfl
 rw [he,h2] at h1
 rcases hn with rfl | rfl <;> cases h1
theorem kno_no {l:List Stm} {nm:List UInt8} (h:∀ t ∈ l,t.name ≠ nm):knoB l nm = false :=
 List.any_eq_false.2 fun t ht=>by rw [decide_eq_true_iff];exact h t ht
theorem def_rig {s:Sch} (hr:schE s = 0):rigX s defP.x = true:=by
 unfold rigX
 rw [decide_eq_true hr];rfl
theorem use_rig {s:Sch} (hr:schE s = 0):rigX s useP.x = true:=by
 unfold rigX
 rw [decide_eq_true hr];rfl
theorem def_ok {s:Sch} (hr:schE s = 0) (b:List Stm):stmE s b defP = if knoB b bDef = true then 10 else 0:=by
 unfold stmE
 rw [show nameB defP.name = true by decide,if_neg (by simp),show defP.name = bDef from rfl,def_rig hr,show totS (treeX defP.x) = 1 from rfl,show depS (treeX defP.x) = 1 from rfl,show namS (knoB b) defP.x = true from rfl]
 rw [if_neg (show ¬ 60 < 1 by decide),if_neg (show ¬ 10 < 1 by decide),if_neg (show ¬ true = false by simp),if_neg (show ¬ true = false by simp)]
theorem use_ok {s:Sch} (hr:schE s = 0) (b:List Stm) (h:knoB b bUse = false):stmE s b useP = if knoB b bDef = true then 0 else 24:=by
 unfold stmE
 rw [show nameB useP.name = true by decide,if_neg (by simp),show useP.name = bUse from rfl,h,if_neg (by simp),use_rig hr,show totS (treeX useP.x) = 1 from rfl,show depS (treeX useP.x) = 1 from rfl]
 rw [if_neg (show ¬ 60 < 1 by decide),if_neg (show ¬ 10 < 1 by decide),if_neg (by simp)]
 have:namS (knoB b) useP.x = knoB b bDef:=by
  rw [namS_eq]
  show (!(true && !knoB b bDef) && !false) = _
  cases knoB b bDef <;> rfl
 rw [this]
 cases knoB b bDef <;> rfl
theorem names_law {s:Sch} (hd:Drawn s) {l:List Stm} {names:List (List UInt8)} (h:ProOk s l names) (hl:l.length ≤ 20) (k:Nat) (hk:k ≤ l.length) :
  proS s (l.take k ++ [defP,useP] ++ l.drop k) = (((l.length + 2:Nat):Int),0) ∧ proS s (l.take k ++ [useP,defP] ++ l.drop k) = ((k:Int),24) ∧ proS s (l.take k ++ [defP,useP] ++ l.drop k ++ [defP]) = (((l.length + 2:Nat):Int),10):=by
 have hr:=hd.ok
 have hc:chain s [] l:=chain_of l [] fun i t hi=>by rw [List.nil_append];exact pro_step hd h hi
 have hcat:l.take k ++ l.drop k = l:=List.take_append_drop k l
 have hlen:(l.take k).length = k:=by rw [List.length_take];omega
 rw [← hcat] at hc
 obtain ⟨c1,c2⟩:=chain_app _ _ _ hc
 rw [List.nil_append] at c2
 have n1:∀ t ∈ l.take k,t ∈ l:=fun t ht=>List.mem_of_mem_take ht
 have n2:∀ t ∈ l.drop k,t ∈ l:=fun t ht=>List.mem_of_mem_drop ht
 have nd:=proN_kno h bDef (.inl rfl)
 have nu:=proN_kno h bUse (.inr rfl)
 have kd:knoB (l.take k) bDef = false:=kno_no fun t ht=>nd t (n1 t ht)
 have ku:knoB (l.take k) bUse = false:=kno_no fun t ht=>nu t (n1 t ht)
 have d1:stmE s (l.take k) defP = 0:=by rw [def_ok hr,kd];rfl
 have kd2:knoB (l.take k ++ [defP]) bDef = true:=by rw [kno_app];show (_ || true) = true;simp
 have ku2:knoB (l.take k ++ [defP]) bUse = false:=by rw [kno_app,ku];rfl
 have u1:stmE s (l.take k ++ [defP]) useP = 0:=by rw [use_ok hr _ ku2,kd2];rfl
 have c3:chain s (l.take k ++ [defP,useP]) (l.drop k):=chain_mono _ _ _ c2 (fun nm hn=>by rw [kno_app,hn];rfl) fun t ht hn=>by
  rw [kno_app,Bool.or_eq_true] at hn
  rcases hn with hn | hn
  ·exact hn
  ·exfalso
   have e1:=nd t (n2 t ht)
   have e2:=nu t (n2 t ht)
   have:knoB [defP,useP] t.name = false:=kno_no fun u hu=>by
    simp only [List.mem_cons,List.not_mem_nil,or_false] at hu
    rcases hu with rfl | rfl
    ·exact fun e=>e1 e.symm
    ·exact fun e=>e2 e.symm
   rw [this] at hn;cases hn
 have c4:chain s [] (l.take k ++ [defP,useP]):=chain_join _ _ _ c1 ⟨by rw [List.nil_append];exact d1,by rw [List.nil_append];exact ⟨u1,trivial⟩⟩
 have c5:chain s [] (l.take k ++ [defP,useP] ++ l.drop k):=chain_join _ _ _ c4 (by rw [List.nil_append];exact c3)
 have hdl:(l.drop k).length = l.length - k:=List.length_drop
 have hRl:(l.take k ++ [defP,useP] ++ l.drop k).length = l.length + 2:=by
  rw [List.length_append,List.length_append,hlen,hdl]
  simp;omega
 refine ⟨?_,?_,?_⟩
 ·rw [proS_prS hr (by omega),prS_all c5,hRl]
 ·rw [proS_prS hr (by rw [List.length_append,List.length_append,hlen,hdl];simp;omega),List.append_assoc,prS_chain _ _ _ c1,List.nil_append]
  show prS s (l.take k) (useP :: (defP :: l.drop k)) = _
  have e:stmE s (l.take k) useP = 24:=by rw [use_ok hr _ ku,kd];rfl
  rw [prS,e,if_neg (by decide),hlen]
 ·rw [proS_prS hr (by rw [List.length_append,hRl];simp;omega),prS_chain _ _ _ c5,List.nil_append,prS,def_ok hr]
  have:knoB (l.take k ++ [defP,useP] ++ l.drop k) bDef = true:=by
   rw [kno_app,kno_app]
   show ((_ || true) || _) = true
   simp
  rw [this,if_pos rfl,if_neg (by decide),hRl]
end Go.Proofs.YtjmbhlgocikfiaaGreatDoor
