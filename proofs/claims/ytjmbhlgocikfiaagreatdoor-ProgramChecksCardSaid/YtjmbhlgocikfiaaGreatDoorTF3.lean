/- Chapter 5: right conditions in parts, truth values out of those of their parts. -/
import Derived.Test.YtjmbhlgocikfiaaGreatDoorTC1
import Derived.Test.YtjmbhlgocikfiaaGreatDoorTSx
import Derived.Test.YtjmbhlgocikfiaaGreatDoorTF1
import Derived.Test.YtjmbhlgocikfiaaGreatDoorTB8
import Derived.Test.YtjmbhlgocikfiaaGreatDoorTDr8
import Derived.Test.YtjmbhlgocikfiaaGreatDoorTCB
import Derived.Test.YtjmbhlgocikfiaaGreatDoorTE3
set_option linter.unusedVariables false
set_option linter.unnecessarySimpa false
set_option linter.unusedSimpArgs false
namespace Go.Proofs.YtjmbhlgocikfiaaGreatDoor
open Go Go.Av
attribute [local irreducible] AWp AOps AAny MAny DQ retQ retG St.le FCall GCall
set_option maxRecDepth 100000
theorem conE_parts {s:Sch} {c:Cnd} (h:conE s c = 0):(1 ≤ c.op ∧ c.op ≤ 7) ∧ (c.kids.length:Int) = kidN c.op ∧ (c.op = 2 ∨ c.op = 3 ∨ c.op = 4 → 0 ≤ c.col ∧ c.col < s.cols.length) ∧ (c.op = 2 → (colAt s c.col).kind = 2 ∧ 0 ≤ c.code ∧ c.code < (lstOf s (colAt s c.col)).2.length) ∧ (c.op = 3 → (colAt s c.col).kind = 3 ∧ c.lo ≤ c.hi ∧ -1000000 ≤ c.lo ∧ c.hi ≤ 1000000) ∧ (c.op = 4 → (colAt s c.col).kind = 3 ∧ (colAt s c.col).opt = true):=by
 unfold conE at h
 by_cases h1:c.op < 1 ∨ 7 < c.op
 ·rw [if_pos h1] at h;cases h
 rw [if_neg h1] at h
 split at h
 ·cases h
 rename_i h2
 by_cases h3:c.op ≠ 2 ∧ c.op ≠ 3 ∧ c.op ≠ 4
 ·exact ⟨by omega,by omega,fun _=>by omega,fun _=>by omega,fun _=>by omega,fun _=>by omega⟩
 rw [if_neg h3] at h
 by_cases h4:c.col < 0 ∨ (s.cols.length:Int) ≤ c.col
 ·rw [if_pos h4] at h;cases h
 rw [if_neg h4] at h
 by_cases h5:c.op = 2
 ·rw [if_pos h5] at h
  split at h
  ·cases h
  split at h
  ·cases h
  exact ⟨by omega,by omega,fun _=>by omega,fun _=>by omega,fun _=>by omega,fun _=>by omega⟩
 rw [if_neg h5] at h
 by_cases h6:c.op = 3
 ·rw [if_pos h6] at h
  split at h
  ·cases h
  split at h
  ·cases h
  exact ⟨by omega,by omega,fun _=>by omega,fun _=>by omega,fun _=>by omega,fun _=>by omega⟩
 rw [if_neg h6] at h
 split at h
 ·cases h
 rename_i h7
 refine ⟨by omega,by omega,fun _=>by omega,fun _=>by omega,fun _=>by omega,fun _=>⟨?_,?_⟩⟩
 ·exact Decidable.of_not_not fun hh=>h7 (.inl hh)
 ·cases ho:(colAt s c.col).opt
  ·exact absurd (.inr ho) h7
  ·rfl
theorem chkL_all {s:Sch}:∀ {l:List Cnd},chkL s l = 0 → ∀ k ∈ l,chkS s k = 0
 | [],_,k,hk=>by cases hk
 | x :: r,h,k,hk=>by
  unfold chkL at h
  by_cases hx:chkS s x = 0
  ·rw [if_pos hx] at h
   rcases List.mem_cons.1 hk with rfl | hk
   ·exact hx
   ·exact chkL_all h k hk
  ·rw [if_neg hx] at h;exact absurd h hx
theorem chkS_parts {s:Sch} {c:Cnd} (h:chkS s c = 0):conE s c = 0 ∧ ∀ k ∈ c.kids,chkS s k = 0:=by
 rw [chkS_eq] at h
 by_cases h1:conE s c = 0
 ·rw [if_pos h1] at h
  exact ⟨h1,chkL_all h⟩
 ·rw [if_neg h1] at h;exact absurd h h1
theorem cndE_parts {s:Sch} {c:Cnd} (h:cndE s c = 0):schE s = 0 ∧ totS c ≤ 40 ∧ depS c ≤ 10 ∧ chkS s c = 0:=by
 unfold cndE at h
 by_cases h1:schE s = 0
 ·rw [if_pos h1] at h
  split at h
  ·cases h
  split at h
  ·cases h
  exact ⟨h1,by omega,by omega,h⟩
 ·rw [if_neg h1] at h;exact absurd h h1
def joinS (op:Int) (vs:List Int) (one:Int):Int:=if op = 1 then 1 else if op = 5 then min (vs.getD 0 0) (vs.getD 1 0) else if op = 6 then max (vs.getD 0 0) (vs.getD 1 0) else if op = 7 then -(vs.getD 0 0) else one
mutual
def telS (g:Cnd → Int):Cnd → Int
 | .mk o c k l h ks=>joinS o (telL g ks) (g (.mk o c k l h ks))
def telL (g:Cnd → Int):List Cnd → List Int
 | []=>[]
 | x :: r=>telS g x :: telL g r
end
end Go.Proofs.YtjmbhlgocikfiaaGreatDoor
namespace Go.Proofs.YtjmbhlgocikfiaaGreatDoor
open Go Go.Av
attribute [local irreducible] AWp AOps AAny MAny DQ retQ retG St.le FCall GCall
set_option maxRecDepth 100000
def Agree (f g:Nat → Int) (L:List Nat):Prop:=∀ x ∈ L,∀ y ∈ L,f x = f y → g x = g y
instance (f g:Nat → Int) (L:List Nat):Decidable (Agree f g L):=by unfold Agree;infer_instance
def seenF (f:Nat → Int) (l:List Nat) (k:Nat) (b:Int):Option Nat:=(l.take k).reverse.find? fun x=>decide (f x = b)
def seenB (f:Nat → Int) (l:List Nat) (k:Nat) (b:Int):Bool:=(seenF f l k b).isSome
def seenV (f g:Nat → Int) (l:List Nat) (k:Nat) (b:Int):Int:=((seenF f l k b).map g).getD 0
theorem seen_yes {f g:Nat → Int} {l:List Nat} {k:Nat} {b:Int} (h:seenB f l k b = true):∃ x ∈ l.take k,f x = b ∧ seenV f g l k b = g x:=by
 unfold seenB at h
 unfold seenV
 obtain ⟨x,hx⟩:=Option.isSome_iff_exists.1 h
 refine ⟨x,?_,?_,by rw [hx];rfl⟩
 ·exact List.mem_reverse.1 (List.mem_of_find?_eq_some hx)
 ·simpa using List.find?_some hx
theorem Agree.not {f g:Nat → Int} {l:List Nat} {k x:Nat} (hx:l[k]? = some x) (hs:seenB f l k (f x) = true) (hv:seenV f g l k (f x) ≠ g x):¬ Agree f g l:=by
 intro h
 obtain ⟨z,hz,e1,e2⟩:=seen_yes (g:=g) hs
 rw [e2] at hv
 exact hv (h z (List.mem_of_mem_take hz) x (List.mem_of_getElem? hx) e1)
def sufM (a:Cnd) (x:Col) (level:Int):Prop :=
 if level = 0 then x.opt = false ∧ ¬ (x.low < a.lo ∧ a.lo ≤ x.high) ∧ ¬ (x.low ≤ a.hi ∧ a.hi < x.high)
 else ((x.low < a.lo ∧ a.lo ≤ x.high) → a.lo.tmod (widthS x level) = 0) ∧ ((x.low ≤ a.hi ∧ a.hi < x.high) → (a.hi + 1).tmod (widthS x level) = 0)
instance (a:Cnd) (x:Col) (level:Int):Decidable (sufM a x level):=by unfold sufM;infer_instance
def sufS (s:Sch) (a:Cnd) (level:Int):Bool :=
 if a.op = 2 then decide (Agree (fun x=>upS (lstOf s (colAt s a.col)).1 (lstOf s (colAt s a.col)).2 x level) (fun x=>atomS s a x) (lvsS s a.col))
 else if a.op = 4 then decide (0 < level) else decide (sufM a (colAt s a.col) level)
end Go.Proofs.YtjmbhlgocikfiaaGreatDoor
namespace Go.Proofs.YtjmbhlgocikfiaaGreatDoor
open Go Go.Av
attribute [local irreducible] AWp AOps AAny MAny DQ retQ retG St.le FCall GCall
set_option maxRecDepth 100000
def levK (s:Sch) (a:Cnd):Nat → Nat → Nat
 | 0,n=>n
 | f + 1,n=>if sufS s a n = true then n else levK s a f (n + 1)
def levS (s:Sch) (a:Cnd):Nat:=levK s a (finS s a.col).toNat 0
def pksR (lv:Nat → Int) (lo:Nat):Nat → List Pk
 | 0=>[]
 | n + 1=>if 0 < lv lo then ⟨lo,lv lo⟩ :: pksR lv (lo + 1) n else pksR lv (lo + 1) n
def upd (lv:Nat → Int) (col lev:Int) (i:Nat):Int:=if col = i then max (lv i) lev else lv i
def lvA (s:Sch) (l:List Cnd) (i:Nat):Int:=l.foldl (fun (m:Int) (a:Cnd)=>if a.col = (i:Int) then max m (levS s a:Int) else m) 0
def needS (s:Sch) (c:Cnd):List Pk:=if cndE s c = 0 then pksR (lvA s (atmS c)) 0 s.cols.length else []
end Go.Proofs.YtjmbhlgocikfiaaGreatDoor
namespace Go.Proofs.YtjmbhlgocikfiaaGreatDoor
open Go Go.Av
attribute [local irreducible] AWp AOps AAny MAny DQ retQ retG St.le FCall GCall
set_option maxRecDepth 100000
structure RigE (s:Sch) (e:Xpr):Prop where
 op:1 ≤ e.op ∧ e.op ≤ 14
 unu:unuX e
 par:parB s e = true
 cnd:usCnd e.op → cndE s e.cnd = 0
 evt:usEvt e.op → cndE s e.evt = 0
 pair:pairP e.op → e.kids.length = 2
 kid:∀ k ∈ e.kids,numP k.op ∧ rigS s k = true
theorem rig_parts {s:Sch} {e:Xpr} (h:rigS s e = true):RigE s e:=by
 rw [rigS_eq] at h
 simp only [Bool.and_eq_true,Bool.not_eq_true',oneX] at h
 obtain ⟨⟨⟨⟨⟨⟨h1,h2⟩,h3⟩,h4⟩,h5⟩,h6⟩,h7⟩:=h
 refine ⟨of_decide_eq_true h1,of_decide_eq_true h2,h3,fun hc=>?_,fun hc=>?_,fun hc=>?_,fun k hk=>?_⟩
 ·rw [decide_eq_false (fun hn=>hn hc),Bool.false_or] at h4;exact of_decide_eq_true h4
 ·rw [decide_eq_false (fun hn=>hn hc),Bool.false_or] at h5;exact of_decide_eq_true h5
 ·rw [decide_eq_false (fun hn=>hn hc),Bool.false_or] at h6;exact of_decide_eq_true h6
 ·have:=List.any_eq_false.1 h7 k hk
  simp only [badK,Bool.or_eq_true,not_or,Bool.not_eq_true',Bool.not_eq_false] at this
  exact ⟨of_decide_eq_true this.1,this.2⟩
theorem isB_col {s:Sch} {col kind:Int} (h:isB s col kind = true):0 ≤ col ∧ col < s.cols.length ∧ ∃ c,s.cols[col.toNat]? = some c ∧ c.kind = kind:=by
 obtain ⟨h0,h1,h2⟩:0 ≤ col ∧ col < s.cols.length ∧ (colAt s col).kind = kind:=by simpa [isB] using h
 have hc:s.cols[col.toNat]? = some (s.cols[col.toNat]'(by omega)):=List.getElem?_eq_getElem (by omega)
 exact ⟨h0,h1,_,hc,by rw [colAt_get hc] at h2;exact h2⟩
theorem RigE.col {s:Sch} {e:Xpr} (h:RigE s e) (ho:usCol e.op):(e.op = 10 ∧ e.col = -1) ∨ isB s e.col 3 = true:=by
 have hp:=h.par
 have hop:=h.op
 simp only [usCol] at ho
 unfold parB at hp
 rw [if_neg (by omega),if_neg (by omega)] at hp
 by_cases h4:e.op = 4 ∨ e.op = 5 ∨ e.op = 14
 ·rw [if_pos h4] at hp;exact .inr hp
 rw [if_neg h4] at hp
 by_cases h10:e.op = 10
 ·rw [if_pos h10] at hp
  simp only [Bool.and_eq_true,Bool.or_eq_true] at hp
  rcases hp.2 with h | h
  ·exact .inl ⟨h10,of_decide_eq_true h⟩
  ·exact .inr h
 rw [if_neg h10] at hp
 by_cases h11:e.op = 11
 ·rw [if_pos h11] at hp
  simp only [Bool.and_eq_true] at hp
  exact .inr hp.1
 rw [if_neg h11] at hp
 by_cases h12:e.op = 12
 ·rw [if_pos h12] at hp
  simp only [Bool.and_eq_true] at hp
  exact .inr hp.1
 rw [if_neg h12,if_pos (by omega)] at hp
 simp only [Bool.and_eq_true] at hp
 exact .inr hp.1
theorem RigE.lens {s:Sch} {e:Xpr} (h:RigE s e):e.dims.length ≤ 3 ∧ e.cols.length ≤ 3 ∧ e.kids.length ≤ 2:=by
 obtain ⟨_,_,_,h4,h5,_,_,h8⟩:=h.unu
 have hp:=h.par
 unfold parB at hp
 refine ⟨?_,?_,?_⟩
 ·rcases h5 with h5 | h5
  ·have h10:e.op = 10:=h5
   rw [if_neg (by omega),if_neg (by omega),if_neg (by omega),if_pos h10] at hp
   simp only [Bool.and_eq_true] at hp
   have:=of_decide_eq_true hp.1
   unfold dimsE at this
   split at this
   ·cases this
   ·omega
  ·omega
 ·rcases h4 with h4 | h4
  ·have h11:e.op = 11:=h4
   rw [if_neg (by omega),if_neg (by omega),if_neg (by omega),if_neg (by omega),if_pos h11] at hp
   simp only [Bool.and_eq_true] at hp
   have:=of_decide_eq_true hp.2
   unfold trmsE at this
   split at this
   ·cases this
   ·omega
  ·omega
 ·rcases h8 with h8 | h8
  ·have:=h.pair h8;omega
  ·omega
theorem RigE.trm {s:Sch} {e:Xpr} (h:RigE s e):∀ c ∈ e.cols,isB s c 3 = true:=by
 intro c hc
 have hpar:=h.par
 have h4:=h.unu.2.2.2.1
 unfold parB at hpar
 have h11:e.op = 11:=by
  rcases h4 with h | h
  ·exact h
  ·rw [List.eq_nil_of_length_eq_zero h] at hc;cases hc
 rw [if_neg (by omega),if_neg (by omega),if_neg (by omega),if_neg (by omega),if_pos h11] at hpar
 simp only [Bool.and_eq_true] at hpar
 have hde:=of_decide_eq_true hpar.2
 unfold trmsE at hde
 split at hde
 ·cases hde
 ·obtain ⟨i,hi,he⟩:=List.getElem_of_mem hc
  have:=firstE_zero hde i c (by rw [List.getElem?_eq_getElem hi,he])
  unfold trmE at this
  split at this
  ·cases this
  ·rename_i hb;simpa using hb
theorem RigE.dim {s:Sch} {e:Xpr} (h:RigE s e):∀ d ∈ e.dims,pickE s d = 0:=by
 intro d hd
 have hpar:=h.par
 have h5:=h.unu.2.2.2.2.1
 unfold parB at hpar
 have h10:e.op = 10:=by
  rcases h5 with h | h
  ·exact h
  ·rw [List.eq_nil_of_length_eq_zero h] at hd;cases hd
 rw [if_neg (by omega),if_neg (by omega),if_neg (by omega),if_pos h10] at hpar
 simp only [Bool.and_eq_true] at hpar
 have hde:=of_decide_eq_true hpar.1
 unfold dimsE at hde
 split at hde
 ·cases hde
 ·obtain ⟨i,hi,he⟩:=List.getElem_of_mem hd
  have:=firstE_zero hde i d (by rw [List.getElem?_eq_getElem hi,he])
  unfold dimE at this
  split at this
  ·exact absurd this (by assumption)
  ·rename_i hpe;exact Decidable.of_not_not hpe
end Go.Proofs.YtjmbhlgocikfiaaGreatDoor
namespace Go.Proofs.YtjmbhlgocikfiaaGreatDoor
open Go Go.Av
attribute [local irreducible] AWp AOps AAny MAny DQ retQ retG St.le FCall GCall
set_option maxRecDepth 100000
theorem chkS_leaf {s:Sch} {c:Cnd} (h:conE s c = 0) (hk:c.kids = []):chkS s c = 0 ∧ totS c = 1 ∧ depS c = 1:=by
 rw [chkS_eq,if_pos h,totS_eq,depS_eq,hk]
 exact ⟨rfl,rfl,rfl⟩
theorem conE_all (s:Sch):conE s (.mk 1 0 0 0 0 []) = 0 :=
 conE_01 (by simp [Cnd.op,Cnd.col,Cnd.code,Cnd.lo,Cnd.hi,Cnd.kids,kidN]) (by simp [Cnd.op])
theorem condL_ok {s:Sch} (hd:Drawn s) (l:List UInt8) (a:Nat):conE s (condL l s a).1 = 0 ∧ (condL l s a).1.kids = []:=by
 unfold condL
 dsimp only
 generalize nxt l a 5 = q
 have h2:=(colD_ok (l:=l) (a:=q.2) hd.two.1).2
 have h3:=(colD_ok (l:=l) (a:=q.2) hd.two.2).2
 generalize colD l q.2 s 2 = k at *
 generalize colD l q.2 s 3 = m at *
 obtain ⟨k1,k2⟩:=k
 obtain ⟨m1,m2⟩:=m
 dsimp only at h2 h3 ⊢
 obtain ⟨x,hx⟩:∃ x,s.cols[m1]? = some x:=⟨_,List.getElem?_eq_getElem h3.1⟩
 have hxa:colAt s m1 = x:=colAt_get (by simpa using hx)
 have hxb:-4 ≤ x.low ∧ x.low ≤ 2:=by
  rw [hxa] at h3
  rcases hd.col hx with ⟨_,rfl⟩ | ⟨_,rfl | rfl⟩ | ⟨_,nm,hm⟩
  ·cases h3.2
  ·cases h3.2
  ·cases h3.2
  ·exact hm.low
 split
 ·refine ⟨?_,rfl⟩
  obtain ⟨c,hc⟩:∃ c,s.cols[k1]? = some c:=⟨_,List.getElem?_eq_getElem h2.1⟩
  have hca:colAt s k1 = c:=colAt_get (by simpa using hc)
  have hl2:1 ≤ (lstOf s (colAt s k1)).2.length:=by
   rw [hca] at h2 ⊢
   obtain ⟨_,e,h5,_⟩:=hd.lvs hc h2.2
   rw [e] at h5
   have:=atS_length (lstOf s c).1 (lstOf s c).2 (levelsS (lstOf s c).1 (lstOf s c).2 - 1)
   omega
  have hn:=nxt_lt l k2 (n:=(lstOf s (colAt s k1)).2.length) (by omega)
  refine conE_02 (by simp [Cnd.op,Cnd.col,Cnd.code,Cnd.lo,Cnd.hi,Cnd.kids,kidN]) rfl ⟨?_,?_,?_⟩ ?_
  ·show (0:Int) ≤ (k1:Int);omega
  ·show (k1:Int) < s.cols.length;omega
  ·exact h2.2
  ·show ¬ (((nxt l k2 (lstOf s (colAt s k1)).2.length).1:Int) < 0 ∨ ((lstOf s (colAt s k1)).2.length:Int) ≤ ((nxt l k2 (lstOf s (colAt s k1)).2.length).1:Int))
   omega
 ·split
  ·refine ⟨?_,rfl⟩
   have h44:=nxt_lt l m2 (n:=44) (by omega)
   have h30:=nxt_lt l (nxt l m2 44).2 (n:=30) (by omega)
   rw [hxa]
   refine conE_03 (by simp [Cnd.op,Cnd.col,Cnd.code,Cnd.lo,Cnd.hi,Cnd.kids,kidN]) rfl ⟨?_,?_,?_⟩ ?_
   ·show (0:Int) ≤ (m1:Int);omega
   ·show (m1:Int) < s.cols.length;omega
   ·exact h3.2
   ·show ¬ (x.low + (-3 + ((nxt l m2 44).1:Int)) + ((nxt l (nxt l m2 44).2 30).1:Int) < x.low + (-3 + ((nxt l m2 44).1:Int)) ∨ x.low + (-3 + ((nxt l m2 44).1:Int)) < -1000000 ∨ 1000000 < x.low + (-3 + ((nxt l m2 44).1:Int)) + ((nxt l (nxt l m2 44).2 30).1:Int))
    omega
  ·split
   ·split
    ·refine ⟨?_,rfl⟩
     rename_i ho
     rw [hxa] at ho
     refine conE_04 (x:=x) (by simp [Cnd.op,Cnd.col,Cnd.code,Cnd.lo,Cnd.hi,Cnd.kids,kidN]) rfl ⟨?_,?_,?_⟩ ?_ ho
     ·show (0:Int) ≤ (m1:Int);omega
     ·show (m1:Int) < s.cols.length;omega
     ·exact h3.2
     ·show s.cols[((m1:Nat):Int).toNat]? = some x
      rw [Int.toNat_natCast];exact hx
    ·exact ⟨conE_all s,rfl⟩
   ·exact ⟨conE_all s,rfl⟩
theorem condS_ok {s:Sch} (hd:Drawn s) (l:List UInt8):∀ d a,chkS s (condS l s d a).1 = 0 ∧ totS (condS l s d a).1 + 1 ≤ 2 ^ (d + 1) ∧ depS (condS l s d a).1 ≤ d + 1
 | 0,a=>by
  obtain ⟨h1,h2⟩:=condL_ok hd l a
  obtain ⟨h3,h4,h5⟩:=chkS_leaf h1 h2
  show chkS s (condL l s a).1 = 0 ∧ _
  exact ⟨h3,by show totS (condL l s a).1 + 1 ≤ _;rw [h4];decide,by show depS (condL l s a).1 ≤ _;omega⟩
 | d + 1,a=>by
  have hp:2 ^ (d + 1 + 1) = 2 * 2 ^ (d + 1):=by rw [Nat.pow_succ];omega
  have hpos:2 ≤ 2 ^ (d + 1):=by rw [Nat.pow_succ];have:=Nat.one_le_two_pow (n:=d);omega
  unfold condS
  dsimp only
  generalize nxt l a 5 = q
  obtain ⟨x1,x2,x3⟩:=condS_ok hd l d q.2
  generalize condS l s d q.2 = x at *
  obtain ⟨y1,y2,y3⟩:=condS_ok hd l d x.2
  generalize condS l s d x.2 = y at *
  have two:∀ o:Int,o = 5 ∨ o = 6 → conE s (.mk o 0 0 0 0 [x.1,y.1]) = 0:=by
   intro o ho
   refine conE_01 ?_ ?_
   ·rcases ho with rfl | rfl <;> simp [Cnd.op,Cnd.col,Cnd.code,Cnd.lo,Cnd.hi,Cnd.kids,kidN]
   ·rcases ho with rfl | rfl <;> simp [Cnd.op]
  have twoC:∀ o:Int,o = 5 ∨ o = 6 → chkS s (.mk o 0 0 0 0 [x.1,y.1]) = 0 ∧ totS (.mk o 0 0 0 0 [x.1,y.1]) + 1 ≤ 2 ^ (d + 1 + 1) ∧ depS (.mk o 0 0 0 0 [x.1,y.1]) ≤ d + 1 + 1:=by
   intro o ho
   rw [chkS_eq,if_pos (two o ho)]
   refine ⟨?_,?_,?_⟩
   ·show chkL s [x.1,y.1] = 0
    simp [chkL,x1,y1]
   ·show totL [x.1,y.1] + 1 + 1 ≤ _
    simp only [totL];omega
   ·show depL [x.1,y.1] 0 + 1 ≤ _
    simp only [depL];omega
  split
  ·have h7:conE s (.mk 7 0 0 0 0 [x.1]) = 0:=conE_01 (by simp [Cnd.op,Cnd.col,Cnd.code,Cnd.lo,Cnd.hi,Cnd.kids,kidN]) (by simp [Cnd.op])
   dsimp only
   rw [chkS_eq,if_pos h7]
   refine ⟨?_,?_,?_⟩
   ·show chkL s [x.1] = 0
    simp [chkL,x1]
   ·show totL [x.1] + 1 + 1 ≤ _
    simp only [totL];omega
   ·show depL [x.1] 0 + 1 ≤ _
    simp only [depL];omega
  ·split
   ·exact twoC 5 (.inl rfl)
   ·split
    ·exact twoC 6 (.inr rfl)
    ·obtain ⟨h1,h2⟩:=condL_ok hd l q.2
     obtain ⟨h3,h4,h5⟩:=chkS_leaf h1 h2
     exact ⟨h3,by rw [h4];omega,by omega⟩
theorem cond_right {s:Sch} (hd:Drawn s) (l:List UInt8) (d a:Nat) (h:d ≤ 4):cndE s (condS l s d a).1 = 0 ∧ totS (condS l s d a).1 ≤ 31:=by
 obtain ⟨h1,h2,h3⟩:=condS_ok hd l d a
 have hp:2 ^ (d + 1) ≤ 2 ^ 5:=Nat.pow_le_pow_right (by omega) (by omega)
 have hp2:2 ^ 5 = 32:=by decide
 unfold cndE
 rw [if_pos hd.ok,if_neg (by omega),if_neg (by omega)]
 exact ⟨h1,by omega⟩
end Go.Proofs.YtjmbhlgocikfiaaGreatDoor
namespace Go.Proofs.YtjmbhlgocikfiaaGreatDoor
open Go Go.Av
attribute [local irreducible] AWp AOps AAny MAny DQ retQ retG St.le FCall GCall
set_option maxRecDepth 100000
def lvM (l:List Pk) (i:Nat):Int:=l.foldl (fun (m:Int) (p:Pk)=>if p.col = (i:Int) then max m p.lev else m) 0
abbrev exaS (s:Sch) (c:Int):Pk:=⟨c,leastS s c (finestS s c)⟩
abbrev dimS (s:Sch) (d:Pk):Pk:=⟨d.col,leastS s d.col d.lev⟩
def levO (ws:List Int) (width:Int):Int:=if 0 ≤ idxP (fun x=>decide (x = width)) ws 0 then ws.length - idxP (fun x=>decide (x = width)) ws 0 else 0
def ownM (s:Sch) (e:Xpr):List Pk :=
 if e.op = 4 ∨ e.op = 5 ∨ e.op = 10 ∨ e.op = 11 ∨ e.op = 12 ∨ e.op = 14 then (if 0 < e.col then [exaS s e.col] else [])
 else if e.op = 13 then [⟨e.col,leastS s e.col (levO (colAt s e.col).widths e.num)⟩] else []
def ownS (s:Sch) (e:Xpr):List Pk:=e.dims.map (dimS s) ++ ownM s e ++ e.cols.map (exaS s)
mutual
def nedS (s:Sch):Xpr → List Pk
 | .mk o n nm c cs ds cd ev ks=>pksR (lvM (ownS s (.mk o n nm c cs ds cd ev ks) ++ needS s cd ++ needS s ev ++ nedL s ks)) 0 s.cols.length
def nedL (s:Sch):List Xpr → List Pk
 | []=>[]
 | x :: r=>nedS s x ++ nedL s r
end
structure Bnd where
 name:List UInt8
 kind:Int
def lookK (nm:List UInt8):List Bnd → Int × Int → Int × Int
 | [],z=>z
 | b :: r,z=>lookK nm r (if b.name = nm then (b.kind,0) else z)
def bndK (before:List Bnd) (nm:List UInt8):Int × Int:=lookK nm before (0,24)
def endK (before:List Bnd) (e:Xpr) (numbers:Bool):Int × Int :=
 if e.op = 2 then bndK before e.name else if numbers = false then (0,16) else if numP e.op then (1,0) else (e.op - 8,0)
mutual
def kinS (before:List Bnd):Xpr → Int × Int
 | .mk o n nm c cs ds cd ev ks=>if (kinL before ks true).1 = 0 then endK before (.mk o n nm c cs ds cd ev ks) (kinL before ks true).2 else (0,(kinL before ks true).1)
def kinL (before:List Bnd):List Xpr → Bool → Int × Bool
 | [],b=>(0,b)
 | x :: r,b=>if (kinS before x).2 = 0 then kinL before r (b && decide ((kinS before x).1 = 1)) else ((kinS before x).2,b)
end
theorem kinS_eq (before:List Bnd) (e:Xpr):kinS before e = if (kinL before e.kids true).1 = 0 then endK before e (kinL before e.kids true).2 else (0,(kinL before e.kids true).1):=by
 cases e
 rw [kinS];rfl
structure MapLv (m:List (Key × AV)) (lv:Nat → Int):Prop where
 keys:MapKeys (.int .i64) m
 get:∀ c:Nat,mgetD m (.i .i64 c) (ofV (.int .i64 0)) = .i (lv c)
end Go.Proofs.YtjmbhlgocikfiaaGreatDoor
