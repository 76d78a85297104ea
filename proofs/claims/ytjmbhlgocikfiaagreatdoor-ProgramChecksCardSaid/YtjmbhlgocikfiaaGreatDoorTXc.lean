/- Chapter 5: a condition that is printed is read; a text that is read is printed. -/
import Derived.Test.YtjmbhlgocikfiaaGreatDoorTNm1
import Derived.Test.YtjmbhlgocikfiaaGreatDoorTF3
import Derived.Test.YtjmbhlgocikfiaaGreatDoorTD1
import Derived.Test.YtjmbhlgocikfiaaGreatDoorTF1
import Derived.Lib.Join
import Derived.Lib.IndexMore
import Derived.Lib.IndexBytes
set_option linter.unusedVariables false
set_option linter.unnecessarySimpa false
set_option linter.unusedSimpArgs false
namespace Go.Proofs.YtjmbhlgocikfiaaGreatDoor
open Go Go.Av
attribute [local irreducible] AWp AOps AAny MAny DQ retQ retG St.le FCall GCall
set_option maxRecDepth 100000
theorem idxP_spec {α:Type} (p:α → Bool):∀ (l:List α) (k:Int),0 ≤ k → idxP p l k = -1 ∨ ∃ (i:Nat) (x:α),l[i]? = some x ∧ p x = true ∧ idxP p l k = k + i
 | [],k,_=>.inl rfl
 | x :: r,k,hk=>by
  unfold idxP
  by_cases h:p x = true
  ·rw [if_pos h];exact .inr ⟨0,x,rfl,h,by omega⟩
  ·rw [if_neg h]
   rcases idxP_spec p r (k + 1) (by omega) with e | ⟨i,y,h1,h2,h3⟩
   ·exact .inl e
   ·exact .inr ⟨i + 1,y,by simpa using h1,h2,by omega⟩
theorem idxF_eq:∀ (cs:List Code) (n:List UInt8) (k:Int),idxF cs n k = idxP (fun c:Code=>decide (c.name = n)) cs k
 | [],_,_=>rfl
 | c :: r,n,k=>by
  unfold idxF idxP fixB
  rw [idxF_eq r n (k + 1)]
theorem find_name {nm:List UInt8} {cs:List Code} {n:List UInt8} (h:0 ≤ findS nm cs n):(cs.getD (findS nm cs n).toNat ⟨[],0⟩).name = n:=by
 unfold findS at h ⊢
 split at h
 ·rename_i h0
  rw [if_pos h0,idxF_eq] at *
  rcases idxP_spec (fun d:Code=>decide (d.name = n)) cs 0 (by omega) with e | ⟨i,x,h1,h2,h3⟩
  ·omega
  ·rw [h3,show (0 + (i:Int)).toNat = i by omega,List.getD_eq_getElem?_getD,h1]
   exact of_decide_eq_true h2
 ·omega
theorem col_parts {s:Sch} (hr:schE s = 0) {i:Nat} {c:Col} (hc:s.cols[i]? = some c):nameB c.name = true ∧ dupB s i c = false:=by
 have h:=(schE_parts hr).2.2.2.1 i c hc
 unfold colE at h
 split at h
 ·cases h
 ·rename_i h1
  split at h
  ·cases h
  ·rename_i h2
   exact ⟨by simpa using h1,by simpa using h2⟩
theorem col_found {s:Sch} {n:List UInt8} (h:0 ≤ findS2 s n):colNm s (findS2 s n) = n ∧ findS2 s n < s.cols.length:=by
 unfold findS2 at h ⊢
 rcases idxP_spec (fun d:Col=>decide (d.name = n)) s.cols 0 (by omega) with e | ⟨i,x,h1,h2,h3⟩
 ·omega
 ·have hlt:=lt_of_get h1
  rw [h3]
  refine ⟨?_,by omega⟩
  unfold colNm
  rw [show (0 + (i:Int)) = (i:Int) by omega,colAt_get (by simpa using h1)]
  exact of_decide_eq_true h2
theorem name_w {n:List UInt8} (h:nameB n = true):n.all isW = true ∧ n ∉ words ∧ ∃ a r,n = a :: r ∧ 97 ≤ a.toNat ∧ a.toNat ≤ 122:=by
 unfold nameB at h
 simp only [Bool.and_eq_true,Bool.not_eq_true',decide_eq_false_iff_not] at h
 obtain ⟨⟨⟨_,h1⟩,h2⟩,h3⟩:=h
 refine ⟨h2,h3,?_⟩
 cases n with
 | nil=>cases h1
 | cons a r=>exact ⟨a,r,rfl,of_decide_eq_true h1⟩
theorem txt_two (s:Sch) (o:Int) (x y:Cnd) (w:List UInt8) (ho:o = 5 ∧ w = bAnd ∨ o = 6 ∧ w = bOr):txtS s (.mk o 0 0 0 0 [x,y]) = [40] ++ txtS s x ++ w ++ txtS s y ++ [41]:=by
 rcases ho with ⟨rfl,rfl⟩ | ⟨rfl,rfl⟩
 ·rw [txtS,if_neg (by decide),if_neg (by decide),if_neg (by decide),if_pos rfl,txtL_map];rfl
 ·rw [txtS,if_neg (by decide),if_neg (by decide),if_neg (by decide),if_neg (by decide),if_pos rfl,txtL_map];rfl
theorem txt_not (s:Sch) (x:Cnd):txtS s (.mk 7 0 0 0 0 [x]) = bNot ++ txtS s x:=by
 rw [txtS,if_neg (by decide),if_neg (by decide),if_neg (by decide),if_neg (by decide),if_neg (by decide),if_pos rfl,txtL_map];rfl
theorem txt_all (s:Sch):txtS s (.mk 1 0 0 0 0 []) = bAll:=by
 rw [txtS,if_neg (by decide),if_neg (by decide),if_neg (by decide),if_neg (by decide),if_neg (by decide),if_neg (by decide)]
end Go.Proofs.YtjmbhlgocikfiaaGreatDoor
namespace Go.Proofs.YtjmbhlgocikfiaaGreatDoor
open Go Go.Av
attribute [local irreducible] AWp AOps AAny MAny DQ retQ retG St.le FCall GCall
set_option maxRecDepth 100000
theorem ato_inv {s:Sch} {col:Int} {t:List UInt8} (h:(atoP s col t).2.1 = true):colNm s col ++ t = txtS s (atoP s col t).1 ++ (atoP s col t).2.2:=by
 unfold atoP at h ⊢
 by_cases h1:(cutS bUnder t).2 = true
 ·rw [if_pos h1] at h ⊢
  by_cases hk:(colAt s col).kind = 2
  ·rw [if_pos hk] at h ⊢
   dsimp only at h ⊢
   have hf:=find_name (of_decide_eq_true h)
   rw [txtS,if_pos rfl,codNm,hf,List.append_assoc,List.append_assoc,tw_split, ← cut_inv h1]
  ·rw [if_neg hk] at h
   cases h
 ·rw [if_neg h1] at h ⊢
  by_cases h2:(cutS bFrom t).2 = true
  ·rw [if_pos h2] at h ⊢
   by_cases h3:(numS (cutS bFrom t).1).2.1 = true
   ·rw [if_pos h3] at h ⊢
    by_cases h4:(cutS bTo (numS (cutS bFrom t).1).2.2).2 = true
    ·rw [if_pos h4] at h ⊢
     dsimp only at h ⊢
     rw [txtS,if_neg (by decide),if_pos rfl,List.append_assoc,List.append_assoc,List.append_assoc,List.append_assoc, ← num_inv h, ← cut_inv h4, ← num_inv h3, ← cut_inv h2]
    ·rw [if_neg h4] at h
     cases h
   ·rw [if_neg h3] at h
    cases h
  ·rw [if_neg h2] at h ⊢
   by_cases h5:(cutS bMiss t).2 = true
   ·rw [if_pos h5] at h ⊢
    dsimp only at h ⊢
    rw [txtS,if_neg (by decide),if_neg (by decide),if_pos rfl,List.append_assoc, ← cut_inv h5]
   ·rw [if_neg h5] at h
    cases h
theorem par_inv {s:Sch} {f:Int → List UInt8 → Rd4} (hf:∀ l t,(f l t).ok = true → t = txtS s (f l t).c ++ (f l t).t) (left:Int) (t:List UInt8) (h:(parJ f left t).ok = true):[40] ++ t = txtS s (parJ f left t).c ++ (parJ f left t).t:=by
 unfold parJ at h ⊢
 by_cases h1:(f left t).ok = true
 ·rw [if_pos h1] at h ⊢
  have e1:=hf left t h1
  by_cases h2:(cutS bAnd (f left t).t).2 = true
  ·rw [if_pos h2] at h ⊢
   by_cases h3:(f (f left t).left (cutS bAnd (f left t).t).1).ok = true
   ·rw [if_pos h3] at h ⊢
    dsimp only at h ⊢
    have e2:=hf _ _ h3
    rw [txt_two s 5 _ _ bAnd (.inl ⟨rfl,rfl⟩)]
    simp only [List.append_assoc]
    rw [← cut_inv h, ← e2, ← cut_inv h2, ← e1]
   ·rw [if_neg h3] at h;cases h
  ·rw [if_neg h2] at h ⊢
   by_cases h4:(cutS bOr (f left t).t).2 = true
   ·rw [if_pos h4] at h ⊢
    by_cases h3:(f (f left t).left (cutS bOr (f left t).t).1).ok = true
    ·rw [if_pos h3] at h ⊢
     dsimp only at h ⊢
     have e2:=hf _ _ h3
     rw [txt_two s 6 _ _ bOr (.inr ⟨rfl,rfl⟩)]
     simp only [List.append_assoc]
     rw [← cut_inv h, ← e2, ← cut_inv h4, ← e1]
    ·rw [if_neg h3] at h;cases h
   ·rw [if_neg h4] at h;cases h
 ·rw [if_neg h1] at h;cases h
theorem con_inv (s:Sch):∀ (d:Nat) (left:Int) (t:List UInt8),(conP s d left t).ok = true → t = txtS s (conP s d left t).c ++ (conP s d left t).t
 | 0,left,t,h=>by unfold conP at h;cases h
 | d + 1,left,t,h=>by
  have ih:=con_inv s d
  unfold conP at h ⊢
  by_cases h1:left - 1 < 0
  ·rw [if_pos h1] at h;cases h
  rw [if_neg h1] at h ⊢
  by_cases h2:(cutS [40] t).2 = true
  ·rw [if_pos h2] at h ⊢
   have:=par_inv (s:=s) (f:=fun l u=>conP s d l u) ih (left - 1) _ h
   rw [← cut_inv h2] at this
   exact this
  rw [if_neg h2] at h ⊢
  by_cases h3:(cutS bNot t).2 = true
  ·rw [if_pos h3] at h ⊢
   dsimp only at h ⊢
   rw [txt_not,List.append_assoc, ← ih _ _ h, ← cut_inv h3]
  rw [if_neg h3] at h ⊢
  by_cases h4:t.takeWhile isW = bAll
  ·rw [if_pos h4] at h ⊢
   dsimp only at h ⊢
   rw [txt_all, ← h4,tw_split]
  rw [if_neg h4] at h ⊢
  by_cases h5:findS2 s (t.takeWhile isW) < 0
  ·rw [if_pos h5] at h;cases h
  rw [if_neg h5] at h ⊢
  dsimp only at h ⊢
  have:=ato_inv h
  rw [(col_found (by omega)).1,tw_split] at this
  exact this
end Go.Proofs.YtjmbhlgocikfiaaGreatDoor
namespace Go.Proofs.YtjmbhlgocikfiaaGreatDoor
open Go Go.Av
attribute [local irreducible] AWp AOps AAny MAny DQ retQ retG St.le FCall GCall
set_option maxRecDepth 100000
abbrev bSep:List UInt8:=[59,32]
abbrev bCom:List UInt8:=[44,32]
abbrev bOut:List UInt8:=[111,117,116,32]
abbrev bLet:List UInt8:=[108,101,116,32]
def zX:Cnd:=.mk 0 0 0 0 0 []
def wrdX (op:Int):List UInt8 :=
 if op = 3 then [99,111,117,110,116] else if op = 4 then [115,117,109] else if op = 5 then [109,101,97,110] else if op = 10 then [116,97,98,108,101] else if op = 11 then [109,111,100,101,108] else if op = 12 then [99,117,114,118,101] else if op = 13 then [104,105,115,116] else [98,111,120]
def sgnX (op:Int):List UInt8:=if op = 6 then [32,43,32] else if op = 7 then [32,45,32] else if op = 8 then [32,42,32] else [32,47,32]
def jnS (sep:List UInt8):List (List UInt8) → List UInt8
 | []=>[]
 | [x]=>x
 | x :: y :: r=>x ++ sep ++ jnS sep (y :: r)
def nmD (s:Sch) (c:Int):List UInt8:=if c < 0 then [45] else colNm s c
def dimT (s:Sch) (d:Pk):List UInt8:=nmD s d.col ++ [47] ++ Lib.itoa d.lev
def prtX (s:Sch) (o n c:Int) (cs:List Int) (ds:List Pk) (ev:Cnd):List (List UInt8) :=
 if o = 3 then [] else if o = 10 then [jnS bCom (ds.map (dimT s)),nmD s c] else if o = 11 then [nmD s c,jnS bCom (cs.map (nmD s))] else if o = 12 then [nmD s c,txtS s ev] else if o = 13 then [nmD s c,Lib.itoa n] else [nmD s c]
mutual
def txtX (s:Sch):Xpr → List UInt8
 | .mk o n nm c cs ds cd ev ks =>
  if o = 1 then Lib.itoa n else if o = 2 then nm
  else if 6 ≤ o ∧ o ≤ 9 then [40] ++ (txtXs s ks).getD 0 [] ++ sgnX o ++ (txtXs s ks).getD 1 [] ++ [41]
  else wrdX o ++ [40] ++ jnS bSep (prtX s o n c cs ds ev ++ [txtS s cd]) ++ [41]
def txtXs (s:Sch):List Xpr → List (List UInt8)
 | []=>[]
 | x :: r=>txtX s x :: txtXs s r
end
theorem txtXs_map (s:Sch):∀ l,txtXs s l = l.map (txtX s)
 | []=>rfl
 | x :: r=>by rw [txtXs,txtXs_map s r];rfl
theorem txtX_eq (s:Sch) (e:Xpr):txtX s e = if e.op = 1 then Lib.itoa e.num else if e.op = 2 then e.name
  else if 6 ≤ e.op ∧ e.op ≤ 9 then [40] ++ (e.kids.map (txtX s)).getD 0 [] ++ sgnX e.op ++ (e.kids.map (txtX s)).getD 1 [] ++ [41]
  else wrdX e.op ++ [40] ++ jnS bSep (prtX s e.op e.num e.col e.cols e.dims e.evt ++ [txtS s e.cnd]) ++ [41]:=by
 cases e
 rw [txtX,txtXs_map];rfl
def txtT (s:Sch) (t:Stm):List UInt8:=(if t.out = true then bOut else bLet) ++ t.name ++ [32,61,32] ++ txtX s t.x
def txtP (s:Sch) (l:List Stm):List UInt8:=l.flatMap fun t=>txtT s t ++ [10]
def priP (s:Sch) (l:List Stm):List UInt8 × Int:=if (proS s l).2 = 0 then (if 20000 < (txtP s l).length then ([],1) else (txtP s l,0)) else ([],(proS s l).2)
def takO (w t:List UInt8):Option (List UInt8):=if (cutS w t).2 = true then some (cutS w t).1 else none
def colO (s:Sch) (t:List UInt8):Option (Int × List UInt8):=if 0 ≤ findS2 s (t.takeWhile isW) then some (findS2 s (t.takeWhile isW),t.dropWhile isW) else none
def numO (t:List UInt8):Option (Int × List UInt8):=if (numS t).2.1 = true ∧ ((cutS [45] t).1.takeWhile isW).length ≤ 15 then some ((numS t).1,(numS t).2.2) else none
def cndO (s:Sch) (t:List UInt8):Option (Cnd × List UInt8):=if (conP s 10 40 t).ok = true then some ((conP s 10 40 t).c,(conP s 10 40 t).t) else none
def dimsO (s:Sch):Nat → List Pk → List UInt8 → Option (List Pk × List UInt8)
 | 0,_,_=>none
 | n + 1,acc,t =>
  match colO s t with
  | none=>none
  | some (c,t1) =>
   match takO [47] t1 with
   | none=>none
   | some t2 =>
    match numO t2 with
    | none=>none
    | some (v,t3) =>
     match takO bCom t3 with
     | some t4=>dimsO s n (acc ++ [⟨c,v⟩]) t4
     | none=>some (acc ++ [⟨c,v⟩],t3)
def colsO (s:Sch):Nat → List Int → List UInt8 → Option (List Int × List UInt8)
 | 0,_,_=>none
 | n + 1,acc,t =>
  match colO s t with
  | none=>none
  | some (c,t1) =>
   match takO bCom t1 with
   | some t2=>colsO s n (acc ++ [c]) t2
   | none=>some (acc ++ [c],t1)
def tabO (s:Sch) (t:List UInt8):Option ((Int × List Pk) × List UInt8) :=
 match dimsO s (t.length + 1) [] t with
 | none=>none
 | some (ds,t1) =>
  match takO bSep t1 with
  | none=>none
  | some t2 =>
   match takO [45] t2 with
   | some t3=>some ((-1,ds),t3)
   | none =>
    match colO s t2 with
    | none=>none
    | some (c,t3)=>some ((c,ds),t3)
def headO (s:Sch) (op:Int) (t:List UInt8):Option ((Int × List Pk) × List UInt8) :=
 if op = 3 then some ((0,[]),t)
 else if op = 10 then
  match tabO s t with
  | none=>none
  | some (z,t1) =>
   match takO bSep t1 with
   | none=>none
   | some t2=>some (z,t2)
 else
  match colO s t with
  | none=>none
  | some (c,t1) =>
   match takO bSep t1 with
   | none=>none
   | some t2=>some ((c,[]),t2)
structure Mid where
 num:Int
 cols:List Int
 evt:Cnd
def midO (s:Sch) (op:Int) (t:List UInt8):Option (Mid × List UInt8) :=
 if op = 11 then
  match colsO s (t.length + 1) [] t with
  | none=>none
  | some (cs,t1) =>
   match takO bSep t1 with
   | none=>none
   | some t2=>some (⟨0,cs,zX⟩,t2)
 else if op = 12 then
  match cndO s t with
  | none=>none
  | some (ev,t1) =>
   match takO bSep t1 with
   | none=>none
   | some t2=>some (⟨0,[],ev⟩,t2)
 else if op = 13 then
  match numO t with
  | none=>none
  | some (n,t1) =>
   match takO bSep t1 with
   | none=>none
   | some t2=>some (⟨n,[],zX⟩,t2)
 else some (⟨0,[],zX⟩,t)
def parsO (s:Sch) (op:Int) (t:List UInt8):Option (Xpr × List UInt8) :=
 match headO s op t with
 | none=>none
 | some (z,t1) =>
  match midO s op t1 with
  | none=>none
  | some (m,t2) =>
   match cndO s t2 with
   | none=>none
   | some (cd,t3) =>
    match takO [41] t3 with
    | none=>none
    | some t4=>some (.mk op m.num [] z.1 m.cols z.2 cd m.evt [],t4)
def opsX (w:List UInt8):Int:=if w = wrdX 3 then 3 else if w = wrdX 4 then 4 else if w = wrdX 5 then 5 else if w = wrdX 10 then 10 else if w = wrdX 11 then 11 else if w = wrdX 12 then 12 else if w = wrdX 13 then 13 else if w = wrdX 14 then 14 else 0
def sgnO (t:List UInt8):Option (Int × List UInt8) :=
 match takO (sgnX 6) t with
 | some u=>some (6,u)
 | none =>
  match takO (sgnX 7) t with
  | some u=>some (7,u)
  | none =>
   match takO (sgnX 8) t with
   | some u=>some (8,u)
   | none =>
    match takO (sgnX 9) t with
    | some u=>some (9,u)
    | none=>none
def pairO (f:List UInt8 → Option (Xpr × List UInt8)) (t:List UInt8):Option (Xpr × List UInt8) :=
 match f t with
 | none=>none
 | some (x,t1) =>
  match sgnO t1 with
  | none=>none
  | some (o,t2) =>
   match f t2 with
   | none=>none
   | some (y,t3) =>
    match takO [41] t3 with
    | none=>none
    | some t4=>some (.mk o 0 [] 0 [] [] zX zX [x,y],t4)
def digO (t:List UInt8):Bool:=match t with
 | []=>false
 | b :: _=>decide (b.toNat = 45 ∨ 48 ≤ b.toNat ∧ b.toNat ≤ 57)
def namO (w t:List UInt8):Option (Xpr × List UInt8):=if w = [] then none else some (.mk 2 0 w 0 [] [] zX zX [],t)
def wordO (s:Sch) (w t:List UInt8):Option (Xpr × List UInt8) :=
 if 0 < opsX w then
  match takO [40] t with
  | some u=>parsO s (opsX w) u
  | none=>namO w t
 else namO w t
def leafO (s:Sch) (t:List UInt8):Option (Xpr × List UInt8) :=
 if t = [] then none
 else if digO t = true then
  match numO t with
  | none=>none
  | some (v,u)=>some (.mk 1 v [] 0 [] [] zX zX [],u)
 else wordO s (t.takeWhile isW) (t.dropWhile isW)
def exprO (s:Sch):Nat → List UInt8 → Option (Xpr × List UInt8)
 | 0,_=>none
 | n + 1,t =>
  match takO [40] t with
  | some u=>pairO (fun v=>exprO s n v) u
  | none=>leafO s t
def notB (c:UInt8) (b:UInt8):Bool:=!decide (b = c)
def stm2O (s:Sch) (out:Bool) (t:List UInt8):Option Stm :=
 if t.takeWhile (notB 32) = [] then none
 else
  match takO [61,32] ((t.dropWhile (notB 32)).drop 1) with
  | none=>none
  | some u =>
   match exprO s (u.length + 1) u with
   | none=>none
   | some (e,v)=>if v = [] ∧ rigX s e = true then some ⟨t.takeWhile (notB 32),out,e⟩ else none
def stmO (s:Sch) (t:List UInt8):Option Stm :=
 match takO bOut t with
 | some u=>stm2O s true u
 | none =>
  match takO bLet t with
  | some u=>stm2O s false u
  | none=>none
def linesO (f:List UInt8 → Option Stm):Nat → List Stm → Int → List UInt8 → List Stm × Int × Int
 | 0,acc,n,_=>(acc,n,0)
 | k + 1,acc,n,t =>
  if t = [] then (acc,n,0)
  else if t.dropWhile (notB 10) = [] then ([],n,11)
  else match f (t.takeWhile (notB 10)) with
   | none=>([],n,11)
   | some x=>linesO f k (acc ++ [x]) (n + 1) ((t.dropWhile (notB 10)).drop 1)
def parPf (f:List UInt8 → Option Stm) (s:Sch) (t:List UInt8):List Stm × Int × Int :=
 if schE s = 0 then
  if 20000 < t.length then ([],0,1)
  else if (linesO f (t.length + 1) [] 1 t).2.2 = 0 then
   if (proS s (linesO f (t.length + 1) [] 1 t).1).2 = 0 then ((linesO f (t.length + 1) [] 1 t).1,0,0)
   else ([],(proS s (linesO f (t.length + 1) [] 1 t).1).1 + 1,(proS s (linesO f (t.length + 1) [] 1 t).1).2)
  else linesO f (t.length + 1) [] 1 t
 else ([],0,schE s)
def parP (s:Sch) (t:List UInt8):List Stm × Int × Int:=parPf (stmO s) s t
end Go.Proofs.YtjmbhlgocikfiaaGreatDoor
namespace Go.Proofs.YtjmbhlgocikfiaaGreatDoor
open Go Go.Av
attribute [local irreducible] AWp AOps AAny MAny DQ retQ retG St.le FCall GCall
set_option maxRecDepth 100000
theorem cut_one (c:UInt8):∀ s:List UInt8,Lib.cut s [c] = (s.takeWhile (notB c),(s.dropWhile (notB c)).drop 1,decide (s.dropWhile (notB c) ≠ []))
 | []=>rfl
 | b :: r=>by
  have ih:=cut_one c r
  have hge:=Lib.index_ge r [c]
  by_cases h:b = c
  ·subst h
   have hi:Lib.index (b :: r) [b] = 0:=by unfold Lib.index;simp
   have hn:notB b b = false:=by unfold notB;simp
   unfold Lib.cut
   rw [hi,if_pos (Int.le_refl 0),List.takeWhile_cons,List.dropWhile_cons,hn]
   simp
  ·have hn:notB c b = true:=by unfold notB;simp [h]
   have hp:([c].isPrefixOf (b :: r)) = false:=by simp [List.isPrefixOf];exact fun e=>h e.symm
   have hi:Lib.index (b :: r) [c] = if Lib.index r [c] == -1 then -1 else Lib.index r [c] + 1:=by rw [Lib.index,hp];rfl
   rw [List.takeWhile_cons,List.dropWhile_cons,hn,if_pos rfl,if_pos rfl]
   unfold Lib.cut at ih ⊢
   by_cases h1:Lib.index r [c] = -1
   ·rw [h1,if_neg (by decide)] at ih
    obtain ⟨i1,i2⟩:=Prod.mk.inj ih
    obtain ⟨i2,i3⟩:=Prod.mk.inj i2
    have hi2:Lib.index (b :: r) [c] = -1:=by rw [hi,h1];rfl
    rw [hi2,if_neg (by decide), ← i1, ← i2, ← i3]
   ·rw [if_pos (by omega)] at ih
    obtain ⟨i1,i2⟩:=Prod.mk.inj ih
    obtain ⟨i2,i3⟩:=Prod.mk.inj i2
    have hb:(Lib.index r [c] == -1) = false:=beq_eq_false_iff_ne.2 h1
    have hi2:Lib.index (b :: r) [c] = Lib.index r [c] + 1:=by rw [hi,hb];rfl
    rw [hi2,if_pos (by omega), ← i1, ← i2, ← i3,show (Lib.index r [c] + 1).toNat = (Lib.index r [c]).toNat + 1 by omega,List.take_succ_cons,show (Lib.index r [c]).toNat + 1 + [c].length = ((Lib.index r [c]).toNat + [c].length) + 1 by omega,List.drop_succ_cons]
theorem join_jnS (sep:List UInt8):∀ l:List (List UInt8),Lib.join l sep = jnS sep l
 | []=>rfl
 | [x]=>by rw [Lib.join_one];rfl
 | x :: y :: r=>by
  have ih:=join_jnS sep (y :: r)
  rw [Lib.join_cons] at ih ⊢
  unfold jnS
  rw [← ih]
  unfold Lib.joinTail
  rw [List.map_cons,List.flatten_cons,List.append_assoc,List.append_assoc]
theorem jnS_len (sep:List UInt8) (n:Nat):∀ l:List (List UInt8),(∀ x ∈ l,x.length ≤ n) → (jnS sep l).length ≤ l.length * (n + sep.length)
 | [],_=>by simp [jnS]
 | [x],h=>by
  have:=h x (by simp)
  show x.length ≤ 1 * (n + sep.length)
  omega
 | x :: y :: r,h=>by
  have ih:=jnS_len sep n (y :: r) (fun z hz=>h z (List.mem_cons_of_mem _ hz))
  have:=h x (by simp)
  unfold jnS
  rw [List.length_append,List.length_append,List.length_cons,Nat.add_mul,Nat.one_mul]
  omega
end Go.Proofs.YtjmbhlgocikfiaaGreatDoor
