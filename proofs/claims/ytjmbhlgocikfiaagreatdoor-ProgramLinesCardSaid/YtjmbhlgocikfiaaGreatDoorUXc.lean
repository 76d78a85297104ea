/- Chapter 16: what texts programs have, and how the program reads them, in plain terms. -/
import Derived.Test.YtjmbhlgocikfiaaGreatDoorUF1
import Derived.Test.YtjmbhlgocikfiaaGreatDoorUBk2
import Derived.Lib.Join
import Derived.Lib.IndexMore
import Derived.Lib.IndexBytes
set_option linter.unusedVariables false
set_option linter.unnecessarySimpa false
set_option linter.unusedSimpArgs false
namespace Go.Proofs.YtjmbhlgocikfiaaGreatDoor
open Go Go.Av
attribute [local irreducible] AWp AOps AAny MAny DQ retQ retG St.le FCall GCall
set_option maxRecDepth 100000
abbrev bSep:List UInt8:=[59,32]
abbrev bCom:List UInt8:=[44,32]
abbrev bOut:List UInt8:=[111,117,116,32]
abbrev bLet:List UInt8:=[108,101,116,32]
def zX:Cnd:=.mk 0 0 0 0 0 []
def wrdX (op:Int):List UInt8 :=
 if op = 3 then [99,111,117,110,116] else if op = 4 then [115,117,109] else if op = 5 then [109,101,97,110] else if op = 10 then [116,97,98,108,101] else if op = 11 then [109,111,100,101,108] else if op = 12 then [99,117,114,118,101] else if op = 13 then [104,105,115,116] else [98,111,120]
def sgnX (op:Int):List UInt8:=if op = 6 then [32,43,32] else if op = 7 then [32,45,32] else if op = 8 then [32,42,32] else [32,47,32]
def jnS (sep:List UInt8):List (List UInt8) → List UInt8
 | []=>[]
 | [x]=>x
 | x :: y :: r=>x ++ sep ++ jnS sep (y :: r)
def nmD (s:Sch) (c:Int):List UInt8:=if c < 0 then [45] else colNm s c
def dimT (s:Sch) (d:Pk):List UInt8:=nmD s d.col ++ [47] ++ Lib.itoa d.lev
def prtX (s:Sch) (o n c:Int) (cs:List Int) (ds:List Pk) (ev:Cnd):List (List UInt8) :=
 if o = 3 then [] else if o = 10 then [jnS bCom (ds.map (dimT s)),nmD s c] else if o = 11 then [nmD s c,jnS bCom (cs.map (nmD s))] else if o = 12 then [nmD s c,txtS s ev] else if o = 13 then [nmD s c,Lib.itoa n] else [nmD s c]
mutual
def txtX (s:Sch):Xpr → List UInt8
 | .mk o n nm c cs ds cd ev ks =>
  if o = 1 then Lib.itoa n else if o = 2 then nm
  else if 6 ≤ o ∧ o ≤ 9 then [40] ++ (txtXs s ks).getD 0 [] ++ sgnX o ++ (txtXs s ks).getD 1 [] ++ [41]
  else wrdX o ++ [40] ++ jnS bSep (prtX s o n c cs ds ev ++ [txtS s cd]) ++ [41]
def txtXs (s:Sch):List Xpr → List (List UInt8)
 | []=>[]
 | x :: r=>txtX s x :: txtXs s r
end
theorem txtXs_map (s:Sch):∀ l,txtXs s l = l.map (txtX s)
 | []=>rfl
 | x :: r=>by rw [txtXs,txtXs_map s r];rfl
theorem txtX_eq (s:Sch) (e:Xpr):txtX s e = if e.op = 1 then Lib.itoa e.num else if e.op = 2 then e.name
  else if 6 ≤ e.op ∧ e.op ≤ 9 then [40] ++ (e.kids.map (txtX s)).getD 0 [] ++ sgnX e.op ++ (e.kids.map (txtX s)).getD 1 [] ++ [41]
  else wrdX e.op ++ [40] ++ jnS bSep (prtX s e.op e.num e.col e.cols e.dims e.evt ++ [txtS s e.cnd]) ++ [41]:=by
 cases e
 rw [txtX,txtXs_map];rfl
def txtT (s:Sch) (t:Stm):List UInt8:=(if t.out = true then bOut else bLet) ++ t.name ++ [32,61,32] ++ txtX s t.x
def txtP (s:Sch) (l:List Stm):List UInt8:=l.flatMap fun t=>txtT s t ++ [10]
def priP (s:Sch) (l:List Stm):List UInt8 × Int:=if (proS s l).2 = 0 then (if 20000 < (txtP s l).length then ([],1) else (txtP s l,0)) else ([],(proS s l).2)
def takO (w t:List UInt8):Option (List UInt8):=if (cutS w t).2 = true then some (cutS w t).1 else none
def colO (s:Sch) (t:List UInt8):Option (Int × List UInt8):=if 0 ≤ findS2 s (t.takeWhile isW) then some (findS2 s (t.takeWhile isW),t.dropWhile isW) else none
def numO (t:List UInt8):Option (Int × List UInt8):=if (numS t).2.1 = true ∧ ((cutS [45] t).1.takeWhile isW).length ≤ 15 then some ((numS t).1,(numS t).2.2) else none
def cndO (s:Sch) (t:List UInt8):Option (Cnd × List UInt8):=if (conP s 10 40 t).ok = true then some ((conP s 10 40 t).c,(conP s 10 40 t).t) else none
def dimsO (s:Sch):Nat → List Pk → List UInt8 → Option (List Pk × List UInt8)
 | 0,_,_=>none
 | n + 1,acc,t =>
  match colO s t with
  | none=>none
  | some (c,t1) =>
   match takO [47] t1 with
   | none=>none
   | some t2 =>
    match numO t2 with
    | none=>none
    | some (v,t3) =>
     match takO bCom t3 with
     | some t4=>dimsO s n (acc ++ [⟨c,v⟩]) t4
     | none=>some (acc ++ [⟨c,v⟩],t3)
def colsO (s:Sch):Nat → List Int → List UInt8 → Option (List Int × List UInt8)
 | 0,_,_=>none
 | n + 1,acc,t =>
  match colO s t with
  | none=>none
  | some (c,t1) =>
   match takO bCom t1 with
   | some t2=>colsO s n (acc ++ [c]) t2
   | none=>some (acc ++ [c],t1)
def tabO (s:Sch) (t:List UInt8):Option ((Int × List Pk) × List UInt8) :=
 match dimsO s (t.length + 1) [] t with
 | none=>none
 | some (ds,t1) =>
  match takO bSep t1 with
  | none=>none
  | some t2 =>
   match takO [45] t2 with
   | some t3=>some ((-1,ds),t3)
   | none =>
    match colO s t2 with
    | none=>none
    | some (c,t3)=>some ((c,ds),t3)
def headO (s:Sch) (op:Int) (t:List UInt8):Option ((Int × List Pk) × List UInt8) :=
 if op = 3 then some ((0,[]),t)
 else if op = 10 then
  match tabO s t with
  | none=>none
  | some (z,t1) =>
   match takO bSep t1 with
   | none=>none
   | some t2=>some (z,t2)
 else
  match colO s t with
  | none=>none
  | some (c,t1) =>
   match takO bSep t1 with
   | none=>none
   | some t2=>some ((c,[]),t2)
structure Mid where
 num:Int
 cols:List Int
 evt:Cnd
def midO (s:Sch) (op:Int) (t:List UInt8):Option (Mid × List UInt8) :=
 if op = 11 then
  match colsO s (t.length + 1) [] t with
  | none=>none
  | some (cs,t1) =>
   match takO bSep t1 with
   | none=>none
   | some t2=>some (⟨0,cs,zX⟩,t2)
 else if op = 12 then
  match cndO s t with
  | none=>none
  | some (ev,t1) =>
   match takO bSep t1 with
   | none=>none
   | some t2=>some (⟨0,[],ev⟩,t2)
 else if op = 13 then
  match numO t with
  | none=>none
  | some (n,t1) =>
   match takO bSep t1 with
   | none=>none
   | some t2=>some (⟨n,[],zX⟩,t2)
 else some (⟨0,[],zX⟩,t)
def parsO (s:Sch) (op:Int) (t:List UInt8):Option (Xpr × List UInt8) :=
 match headO s op t with
 | none=>none
 | some (z,t1) =>
  match midO s op t1 with
  | none=>none
  | some (m,t2) =>
   match cndO s t2 with
   | none=>none
   | some (cd,t3) =>
    match takO [41] t3 with
    | none=>none
    | some t4=>some (.mk op m.num [] z.1 m.cols z.2 cd m.evt [],t4)
def opsX (w:List UInt8):Int:=if w = wrdX 3 then 3 else if w = wrdX 4 then 4 else if w = wrdX 5 then 5 else if w = wrdX 10 then 10 else if w = wrdX 11 then 11 else if w = wrdX 12 then 12 else if w = wrdX 13 then 13 else if w = wrdX 14 then 14 else 0
def sgnO (t:List UInt8):Option (Int × List UInt8) :=
 match takO (sgnX 6) t with
 | some u=>some (6,u)
 | none =>
  match takO (sgnX 7) t with
  | some u=>some (7,u)
  | none =>
   match takO (sgnX 8) t with
   | some u=>some (8,u)
   | none =>
    match takO (sgnX 9) t with
    | some u=>some (9,u)
    | none=>none
def pairO (f:List UInt8 → Option (Xpr × List UInt8)) (t:List UInt8):Option (Xpr × List UInt8) :=
 match f t with
 | none=>none
 | some (x,t1) =>
  match sgnO t1 with
  | none=>none
  | some (o,t2) =>
   match f t2 with
   | none=>none
   | some (y,t3) =>
    match takO [41] t3 with
    | none=>none
    | some t4=>some (.mk o 0 [] 0 [] [] zX zX [x,y],t4)
def digO (t:List UInt8):Bool:=match t with
 | []=>false
 | b :: _=>decide (b.toNat = 45 ∨ 48 ≤ b.toNat ∧ b.toNat ≤ 57)
def namO (w t:List UInt8):Option (Xpr × List UInt8):=if w = [] then none else some (.mk 2 0 w 0 [] [] zX zX [],t)
def wordO (s:Sch) (w t:List UInt8):Option (Xpr × List UInt8) :=
 if 0 < opsX w then
  match takO [40] t with
  | some u=>parsO s (opsX w) u
  | none=>namO w t
 else namO w t
def leafO (s:Sch) (t:List UInt8):Option (Xpr × List UInt8) :=
 if t = [] then none
 else if digO t = true then
  match numO t with
  | none=>none
  | some (v,u)=>some (.mk 1 v [] 0 [] [] zX zX [],u)
 else wordO s (t.takeWhile isW) (t.dropWhile isW)
def exprO (s:Sch):Nat → List UInt8 → Option (Xpr × List UInt8)
 | 0,_=>none
 | n + 1,t =>
  match takO [40] t with
  | some u=>pairO (fun v=>exprO s n v) u
  | none=>leafO s t
def notB (c:UInt8) (b:UInt8):Bool:=!decide (b = c)
def stm2O (s:Sch) (out:Bool) (t:List UInt8):Option Stm :=
 if t.takeWhile (notB 32) = [] then none
 else
  match takO [61,32] ((t.dropWhile (notB 32)).drop 1) with
  | none=>none
  | some u =>
   match exprO s (u.length + 1) u with
   | none=>none
   | some (e,v)=>if v = [] ∧ rigX s e = true then some ⟨t.takeWhile (notB 32),out,e⟩ else none
def stmO (s:Sch) (t:List UInt8):Option Stm :=
 match takO bOut t with
 | some u=>stm2O s true u
 | none =>
  match takO bLet t with
  | some u=>stm2O s false u
  | none=>none
def linesO (f:List UInt8 → Option Stm):Nat → List Stm → Int → List UInt8 → List Stm × Int × Int
 | 0,acc,n,_=>(acc,n,0)
 | k + 1,acc,n,t =>
  if t = [] then (acc,n,0)
  else if t.dropWhile (notB 10) = [] then ([],n,11)
  else match f (t.takeWhile (notB 10)) with
   | none=>([],n,11)
   | some x=>linesO f k (acc ++ [x]) (n + 1) ((t.dropWhile (notB 10)).drop 1)
def parPf (f:List UInt8 → Option Stm) (s:Sch) (t:List UInt8):List Stm × Int × Int :=
 if schE s = 0 then
  if 20000 < t.length then ([],0,1)
  else if (linesO f (t.length + 1) [] 1 t).2.2 = 0 then
   if (proS s (linesO f (t.length + 1) [] 1 t).1).2 = 0 then ((linesO f (t.length + 1) [] 1 t).1,0,0)
   else ([],(proS s (linesO f (t.length + 1) [] 1 t).1).1 + 1,(proS s (linesO f (t.length + 1) [] 1 t).1).2)
  else linesO f (t.length + 1) [] 1 t
 else ([],0,schE s)
def parP (s:Sch) (t:List UInt8):List Stm × Int × Int:=parPf (stmO s) s t
end Go.Proofs.YtjmbhlgocikfiaaGreatDoor
namespace Go.Proofs.YtjmbhlgocikfiaaGreatDoor
open Go Go.Av
attribute [local irreducible] AWp AOps AAny MAny DQ retQ retG St.le FCall GCall
set_option maxRecDepth 100000
theorem cut_one (c:UInt8):∀ s:List UInt8,Lib.cut s [c] = (s.takeWhile (notB c),(s.dropWhile (notB c)).drop 1,decide (s.dropWhile (notB c) ≠ []))
 | []=>rfl
 | b :: r=>by
  have ih:=cut_one c r
  have hge:=Lib.index_ge r [c]
  by_cases h:b = c
  ·subst h
   have hi:Lib.index (b :: r) [b] = 0:=by unfold Lib.index;simp
   have hn:notB b b = false:=by unfold notB;simp
   unfold Lib.cut
   rw [hi,if_pos (Int.le_refl 0),List.takeWhile_cons,List.dropWhile_cons,hn]
   simp
  ·have hn:notB c b = true:=by unfold notB;simp [h]
   have hp:([c].isPrefixOf (b :: r)) = false:=by simp [List.isPrefixOf];exact fun e=>h e.symm
   have hi:Lib.index (b :: r) [c] = if Lib.index r [c] == -1 then -1 else Lib.index r [c] + 1:=by rw [Lib.index,hp];rfl
   rw [List.takeWhile_cons,List.dropWhile_cons,hn,if_pos rfl,if_pos rfl]
   unfold Lib.cut at ih ⊢
   by_cases h1:Lib.index r [c] = -1
   ·rw [h1,if_neg (by decide)] at ih
    obtain ⟨i1,i2⟩:=Prod.mk.inj ih
    obtain ⟨i2,i3⟩:=Prod.mk.inj i2
    have hi2:Lib.index (b :: r) [c] = -1:=by rw [hi,h1];rfl
    rw [hi2,if_neg (by decide), ← i1, ← i2, ← i3]
   ·rw [if_pos (by omega)] at ih
    obtain ⟨i1,i2⟩:=Prod.mk.inj ih
    obtain ⟨i2,i3⟩:=Prod.mk.inj i2
    have hb:(Lib.index r [c] == -1) = false:=beq_eq_false_iff_ne.2 h1
    have hi2:Lib.index (b :: r) [c] = Lib.index r [c] + 1:=by rw [hi,hb];rfl
    rw [hi2,if_pos (by omega), ← i1, ← i2, ← i3,show (Lib.index r [c] + 1).toNat = (Lib.index r [c]).toNat + 1 by omega,List.take_succ_cons,show (Lib.index r [c]).toNat + 1 + [c].length = ((Lib.index r [c]).toNat + [c].length) + 1 by omega,List.drop_succ_cons]
theorem join_jnS (sep:List UInt8):∀ l:List (List UInt8),Lib.join l sep = jnS sep l
 | []=>rfl
 | [x]=>by rw [Lib.join_one];rfl
 | x :: y :: r=>by
  have ih:=join_jnS sep (y :: r)
  rw [Lib.join_cons] at ih ⊢
  unfold jnS
  rw [← ih]
  unfold Lib.joinTail
  rw [List.map_cons,List.flatten_cons,List.append_assoc,List.append_assoc]
theorem jnS_len (sep:List UInt8) (n:Nat):∀ l:List (List UInt8),(∀ x ∈ l,x.length ≤ n) → (jnS sep l).length ≤ l.length * (n + sep.length)
 | [],_=>by simp [jnS]
 | [x],h=>by
  have:=h x (by simp)
  show x.length ≤ 1 * (n + sep.length)
  omega
 | x :: y :: r,h=>by
  have ih:=jnS_len sep n (y :: r) (fun z hz=>h z (List.mem_cons_of_mem _ hz))
  have:=h x (by simp)
  unfold jnS
  rw [List.length_append,List.length_append,List.length_cons,Nat.add_mul,Nat.one_mul]
  omega
end Go.Proofs.YtjmbhlgocikfiaaGreatDoor
