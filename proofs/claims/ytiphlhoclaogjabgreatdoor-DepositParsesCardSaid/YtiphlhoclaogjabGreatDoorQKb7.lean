/- Words of a text: cut at a word, divided by a word. -/
import Derived.Test.YtiphlhoclaogjabGreatDoorQXt2
import Derived.Lib.Split
import Derived.Lib.LastIndexLaws
set_option linter.unusedVariables false
set_option linter.unnecessarySimpa false
set_option linter.unusedSimpArgs false
namespace Go.Proofs.YtiphlhoclaogjabGreatDoor
open Go Go.Av
attribute [local irreducible] D6 B8 D8 D7 DQ E0 E1 St.le B4 B9
set_option maxRecDepth 100000
def j9 (w:List UInt8):List UInt8 → Option (List UInt8 × List UInt8)
 | []=>if w.isPrefixOf [] = true then some ([],[]) else none
 | b :: r=>if w.isPrefixOf (b :: r) = true then some ([],(b :: r).drop w.length) else match j9 w r with
   | none=>none
   | some (x,y)=>some (b :: x,y)
def Q1 (w:List UInt8):Nat → List UInt8 → List (List UInt8)
 | 0,t=>[t]
 | n + 1,t=>match j9 w t with
   | none=>[t]
   | some (x,y)=>x :: Q1 w n y
def I0 (w t:List UInt8):List (List UInt8):=Q1 w t.length t
theorem Gg {w t:List UInt8} (h:w.isPrefixOf t = true):t = w ++ t.drop w.length:=by
 have:(H9 w t).2 = true:=by unfold H9;rw [if_pos h]
 have e:=WM this
 unfold H9 at e
 rw [if_pos h] at e
 exact e
theorem Dq {w:List UInt8}:∀ {t x y:List UInt8},j9 w t = some (x,y) → t = x ++ w ++ y
 | [],x,y,h=>by
   rw [j9] at h
   split at h
   ·rename_i hp
    cases h
    have:=Gg hp
    cases w with
    | nil=>rfl
    | cons a r=>cases this
   ·cases h
 | b :: r,x,y,h=>by
   rw [j9] at h
   split at h
   ·rename_i hp
    cases h
    exact Gg hp
   ·cases hc:j9 w r with
    | none=>rw [hc] at h;cases h
    | some z =>
      obtain ⟨x',y'⟩:=z
      rw [hc] at h
      cases h
      have:=Dq hc
      rw [this];rfl
theorem Cw (w:List UInt8) (n:Nat) (t:List UInt8):Q1 w n t ≠ []:=by
 cases n with
 | zero=>simp [Q1]
 | succ n=>rw [Q1];split <;> simp
theorem Dr {w:List UInt8}:∀ (n:Nat) (t:List UInt8),u2 w (Q1 w n t) = t
 | 0,t=>rfl
 | n + 1,t=>by
   rw [Q1]
   cases h:j9 w t with
   | none=>rfl
   | some z =>
     obtain ⟨x,y⟩:=z
     dsimp only
     rw [UJ _ _ (Cw w n y),Dr n y]
     exact (Dq h).symm
theorem Ny {a b:UInt8} {w r:List UInt8} (h:¬ a = b):(a :: w).isPrefixOf (b :: r) = false:=by
 rw [List.isPrefixOf_cons_cons,beq_false_of_ne h];rfl
theorem Nz {a:UInt8} {w:List UInt8}:∀ {t:List UInt8},t.all (D0 a) = true → j9 (a :: w) t = none
 | [],_=>rfl
 | b :: r,h=>by
   rw [List.all_cons,Bool.and_eq_true] at h
   have hb:¬ a = b:=fun e=>by
    have h1:=h.1
    subst e
    unfold D0 at h1
    simp at h1
   rw [j9,Ny hb,if_neg (by simp),Nz h.2]
theorem MQ {a:UInt8} {w y:List UInt8}:∀ {x:List UInt8},x.all (D0 a) = true → j9 (a :: w) (x ++ ((a :: w) ++ y)) = some (x,y)
 | [],_=>by
   have hp:(a :: w).isPrefixOf ((a :: w) ++ y) = true:=by
    have:=Ns (a :: w) y
    unfold H9 at this
    split at this
    ·assumption
    ·exact absurd (Prod.mk.inj this).2 (by decide)
   have hp2:(a :: w).isPrefixOf (a :: (w ++ y)) = true:=hp
   rw [List.nil_append]
   show j9 (a :: w) (a :: (w ++ y)) = _
   rw [j9,if_pos hp2]
   show some ([],List.drop (a :: w).length ((a :: w) ++ y)) = _
   rw [List.drop_left]
 | b :: r,h=>by
   rw [List.all_cons,Bool.and_eq_true] at h
   have hb:¬ a = b:=fun e=>by
    have h1:=h.1
    subst e
    unfold D0 at h1
    simp at h1
   rw [List.cons_append,j9,Ny hb,if_neg (by simp),MQ h.2]
theorem Ri {a:UInt8} {w:List UInt8}:∀ (ps:List (List UInt8)) (n:Nat),ps ≠ [] → (∀ p ∈ ps,p.all (D0 a) = true) → ps.length ≤ n + 1 → Q1 (a :: w) n (u2 (a :: w) ps) = ps
 | [],n,h,_,_=>absurd rfl h
 | [p],n,_,h,_=>by
   cases n with
   | zero=>rfl
   | succ n=>rw [Q1,u2,Nz (h p (by simp))]
 | p :: q :: r,0,_,_,hn=>by simp at hn
 | p :: q :: r,n + 1,_,h,hn=>by
   rw [u2,List.append_assoc,Q1,MQ (h p (by simp))]
   dsimp only
   rw [Ri (q :: r) n (by simp) (fun x hx=>h x (by simp only [List.mem_cons] at hx ⊢;exact .inr hx)) (by simpa using hn)]
theorem OA {a:UInt8} {w:List UInt8} {ps:List (List UInt8)} (hp:ps ≠ []) (h:∀ p ∈ ps,p.all (D0 a) = true):I0 (a :: w) (u2 (a :: w) ps) = ps :=
 Ri ps _ hp h (Rg _ (by simp) ps)
theorem l5 (w:List UInt8):∀ t:List UInt8,j9 w t = if Lib.index t w = -1 then none else some (t.take (Lib.index t w).toNat,t.drop ((Lib.index t w).toNat + w.length))
 | []=>by
   cases w with
   | nil=>rfl
   | cons a r=>rfl
 | b :: r=>by
   rw [j9,Lib.index]
   by_cases hp:w.isPrefixOf (b :: r) = true
   ·rw [if_pos hp,if_pos hp,if_neg (by decide)]
    show _ = some (List.take 0 _,List.drop (0 + w.length) _)
    rw [Nat.zero_add];rfl
   ·rw [if_neg hp,if_neg hp,l5 w r]
    by_cases hi:Lib.index r w = -1
    ·rw [if_pos hi,if_pos (beq_iff_eq.2 hi),if_pos rfl]
    ·have hge:=Lib.index_ge r w
     rw [if_neg hi,if_neg (fun e=>hi (beq_iff_eq.1 e)),if_neg (by omega)]
     dsimp only
     rw [show (Lib.index r w + 1).toNat = (Lib.index r w).toNat + 1 by omega,List.take_succ_cons,show (Lib.index r w).toNat + 1 + w.length = (Lib.index r w).toNat + w.length + 1 by omega,List.drop_succ_cons]
theorem Jt (w:List UInt8):∀ (k:Nat) (t:List UInt8),Lib.splitK w 0 k t = Q1 w k t
 | 0,_=>rfl
 | k + 1,t=>by
   rw [Lib.splitK,Q1,l5]
   by_cases hi:Lib.index t w = -1
   ·rw [if_pos (beq_iff_eq.2 hi),if_pos hi]
   ·rw [if_neg (fun e=>hi (beq_iff_eq.1 e)),if_neg hi]
    dsimp only
    rw [Nat.add_zero,Jt w k]
theorem IB {w:List UInt8} (hw:w ≠ []):∀ (n:Nat) (t:List UInt8),Lib.count t w ≤ n → Q1 w n t = Q1 w (Lib.count t w) t
 | 0,t,h=>by rw [Nat.le_zero.1 h]
 | n + 1,t,h=>by
   by_cases hi:Lib.index t w = -1
   ·rw [Lib.count_miss hi,Q1,Q1,l5,if_pos hi]
   ·have hge:=Lib.index_ge t w
    obtain ⟨i,he⟩:∃ i:Nat,Lib.index t w = i:=⟨(Lib.index t w).toNat,by omega⟩
    have hc:=Lib.count_hit hw he
    rw [hc,Nat.add_comm 1,Q1,Q1,l5,if_neg hi,he]
    dsimp only
    rw [Int.toNat_natCast,IB hw n _ (by omega)]
theorem Ju {w:List UInt8} (hw:w ≠ []):∀ (n:Nat) (t:List UInt8),t.length ≤ n → Lib.count t w ≤ t.length
 | 0,t,ht=>by
   have:t = []:=List.eq_nil_of_length_eq_zero (by omega)
   subst this
   rw [Lib.count_miss]
   ·exact Nat.le_refl _
   ·cases w with
    | nil=>exact absurd rfl hw
    | cons a r=>rfl
 | n + 1,t,ht=>by
   by_cases hi:Lib.index t w = -1
   ·rw [Lib.count_miss hi];exact Nat.zero_le _
   ·have hge:=Lib.index_ge t w
    obtain ⟨i,he⟩:∃ i:Nat,Lib.index t w = i:=⟨(Lib.index t w).toNat,by omega⟩
    have hr:=Lib.index_room t w (by omega)
    have hwl:1 ≤ w.length:=List.length_pos_iff.2 hw
    have:=Ju hw n (t.drop (i + w.length)) (by rw [List.length_drop];omega)
    rw [Lib.count_hit hw he]
    rw [List.length_drop] at this
    omega
theorem Wa {w:List UInt8} (hw:w ≠ []) (t:List UInt8):Lib.split t w = I0 w t:=by
 unfold Lib.split I0
 rw [Jt,IB hw t.length t (Ju hw _ t (Nat.le_refl _))]
theorem Ds (w:List UInt8):∀ (n:Nat) (t:List UInt8),(Q1 w n t).length ≤ n + 1
 | 0,_=>Nat.le_refl _
 | n + 1,t=>by
   rw [Q1]
   split
   ·simp
   ·have:=Ds w n (by assumption)
    rename_i x y _
    have:=Ds w n y
    rw [List.length_cons];omega
theorem OB {c:UInt8}:∀ (n:Nat) (t:List UInt8),t.length ≤ n → ∀ p ∈ Q1 [c] n t,p.all (D0 c) = true
 | 0,t,h,p,hp=>by
   have:t = []:=List.eq_nil_of_length_eq_zero (by omega)
   subst this
   rw [Q1,List.mem_singleton] at hp
   subst hp;rfl
 | n + 1,t,h,p,hp=>by
   rw [Q1] at hp
   cases hc:j9 [c] t with
   | none =>
     rw [hc] at hp
     dsimp only at hp
     rw [List.mem_singleton] at hp
     subst hp
     rw [List.all_eq_true]
     intro b hb
     by_cases hbc:b = c
     ·exfalso
      subst hbc
      obtain ⟨x,y,rfl⟩:=List.append_of_mem hb
      rw [l5] at hc
      split at hc
      ·rename_i hi
       rcases Lib.index_spec (x ++ b :: y) [b] with ⟨_,h2⟩ | ⟨i,h1,_⟩
       ·have:=h2 x.length (by simp)
        unfold Lib.occAt at this
        rw [List.drop_left] at this
        simp at this
       ·omega
      ·cases hc
     ·unfold D0;rw [decide_eq_false hbc];rfl
   | some z =>
     obtain ⟨x,y⟩:=z
     rw [hc] at hp
     dsimp only at hp
     have hinv:=Dq hc
     have hlen:t.length = x.length + 1 + y.length:=by rw [hinv];simp only [List.length_append,List.length_singleton]
     rcases List.mem_cons.1 hp with rfl | hp
     ·rw [l5] at hc
      split at hc
      ·cases hc
      ·rename_i hi
       cases hc
       rw [List.all_eq_true]
       intro b hb
       by_cases hbc:b = c
       ·exfalso
        subst hbc
        rcases Lib.index_spec t [b] with ⟨h1,_⟩ | ⟨i,h1,h2,h3,h4⟩
        ·exact hi h1
        ·rw [h1,Int.toNat_natCast] at hb
         obtain ⟨j,hj⟩:=List.mem_iff_getElem?.1 hb
         have hjl:=(List.getElem?_eq_some_iff.1 hj).1
         rw [List.length_take] at hjl
         have h5:=h4 j (by omega)
         rw [List.getElem?_take,if_pos (by omega)] at hj
         unfold Lib.occAt at h5
         rw [S3 hj] at h5
         simp at h5
       ·unfold D0;rw [decide_eq_false hbc];rfl
     ·exact OB n y (by omega) p hp
end Go.Proofs.YtiphlhoclaogjabGreatDoor
namespace Go.Proofs.YtiphlhoclaogjabGreatDoor
open Go Go.Av
attribute [local irreducible] D6 B8 D8 D7 DQ E0 E1 St.le B4 B9
set_option maxRecDepth 100000
theorem JA {c:UInt8}:∀ {t:List UInt8},t.dropWhile (D0 c) ≠ [] → t.dropWhile (D0 c) = c :: (t.dropWhile (D0 c)).drop 1
 | [],h=>absurd rfl h
 | a :: r,h=>by
   rw [List.dropWhile_cons] at h ⊢
   by_cases ha:D0 c a = true
   ·rw [if_pos ha] at h ⊢
    exact JA h
   ·rw [if_neg ha]
    unfold D0 at ha
    have:a = c:=by simpa using ha
    rw [this];rfl
theorem IC (c:UInt8) (t:List UInt8):t.takeWhile (D0 c) ++ t.dropWhile (D0 c) = t:=List.takeWhile_append_dropWhile
structure StmR (s:C4) (x:au):Prop where
 ne:x.name ≠ []
 sp:x.name.all (D0 32) = true
 rig:aM s x.x = true
end Go.Proofs.YtiphlhoclaogjabGreatDoor
namespace Go.Proofs.YtiphlhoclaogjabGreatDoor
open Go Go.Av
attribute [local irreducible] D6 B8 D8 D7 DQ E0 E1 St.le B4 B9
set_option maxRecDepth 100000
abbrev B6 (ws:List (List UInt8)) (i:Nat):List UInt8:=ws.getD i []
theorem C8 {ws:List (List UInt8)} {i:Nat} (h:i < ws.length):ws[i]? = some (B6 ws i):=by
 rw [B6,List.getD_eq_getElem?_getD,List.getElem?_eq_getElem h];rfl
def PZ:List CL → Code → List CL
 | [],_=>[]
 | [l],c=>[(l.1,l.2 ++ [c])]
 | l :: m :: r,c=>l :: PZ (m :: r) c
theorem CN (X:List CL) (l:CL) (c:Code):PZ (X ++ [l]) c = X ++ [(l.1,l.2 ++ [c])]:=by
 induction X with
 | nil=>rfl
 | cons x X ih =>
   cases X with
   | nil=>rfl
   | cons y X=>exact congrArg (x :: ·) ih
def o9 (r:F5) (w:List (List UInt8)):F5 × Bool :=
 if ¬ r.st = 0 then (r,false)
 else if B6 w 0 = I8 then (if w.length = 2 then (⟨r.lists ++ [(B6 w 1,[])],r.cols,r.rows,r.st⟩,true) else (r,false))
 else if ¬ w.length = 3 ∨ r.lists = [] then (r,false)
 else (⟨PZ r.lists ⟨B6 w 1,(H4 (B6 w 2)).1⟩,r.cols,r.rows,r.st⟩,(H4 (B6 w 2)).2)
def BO (w:List (List UInt8)):C5 × Bool :=
 if B6 w 0 = U6 then (⟨B6 w 1,1,0,0,0,[],false⟩,decide (w.length = 2))
 else if B6 w 0 = O2 then (if w.length = 3 then (⟨B6 w 1,2,(H4 (B6 w 2)).1,0,0,[],false⟩,(H4 (B6 w 2)).2) else (⟨B6 w 1,2,0,0,0,[],false⟩,false))
 else match P4 ((w.drop 2).take 2 ++ w.drop 5) with
  | some n=>(⟨B6 w 1,3,0,n.getD 0 0,n.getD 1 0,n.drop 2,decide (B6 w 4 = H2)⟩,true)
  | none=>(⟨B6 w 1,3,0,0,0,[],false⟩,false)
def Ah (w:List (List UInt8)):Prop:=¬ B6 w 0 = U6 ∧ ¬ B6 w 0 = O2 ∧ (w.length < 6 ∨ ¬ B6 w 4 = G8 ∧ ¬ B6 w 4 = H2)
instance (w:List (List UInt8)):Decidable (Ah w):=by unfold Ah;infer_instance
def u3 (r:F5) (w:List (List UInt8)):F5 × Bool :=
 if r.st = 2 ∨ w.length < 2 then (r,false)
 else if Ah w then (⟨r.lists,r.cols,r.rows,1⟩,false)
 else (⟨r.lists,r.cols ++ [(BO w).1],r.rows,1⟩,(BO w).2)
def AW (ls:List CL) (q:C5 × List UInt8):Int × Bool :=
 if q.1.kind = 2 then (if q.1.lst < 0 ∨ (ls.length:Int) ≤ q.1.lst then (0,false) else (I5 (fun c:Code=>decide (c.name = q.2)) (ls.getD q.1.lst.toNat ([],[])).2 0,decide (0 ≤ I5 (fun c:Code=>decide (c.name = q.2)) (ls.getD q.1.lst.toNat ([],[])).2 0)))
 else if q.1.kind = 3 ∧ q.2 = CJ then ((-1099511627776),q.1.opt)
 else ((H4 q.2).1,(H4 q.2).2 && decide (¬ (H4 q.2).1 = (-1099511627776)))
def G4 {α:Type} (f:α → Int × Bool):List α → Option (List Int)
 | []=>some []
 | w :: r=>if (f w).2 = true then (G4 f r).map ((f w).1 :: ·) else none
theorem CO {α:Type} {f:α → Int × Bool} {ws:List α} {k:Nat} {w:α} {l:List Int} (h:G4 f (ws.take k) = some l) (hw:ws[k]? = some w) (ho:(f w).2 = true):G4 f (ws.take (k + 1)) = some (l ++ [(f w).1]):=by
 induction ws generalizing k l with
 | nil=>simp at hw
 | cons x r ih =>
   cases k with
   | zero =>
     simp only [List.getElem?_cons_zero,Option.some.injEq] at hw
     subst hw
     simp only [List.take_zero,G4,Option.some.injEq] at h
     subst h
     simp [G4,ho]
   | succ k =>
     rw [List.getElem?_cons_succ] at hw
     rw [List.take_succ_cons,G4] at h
     rw [List.take_succ_cons,G4]
     by_cases hx:(f x).2 = true
     ·rw [if_pos hx] at h ⊢
      cases hr:G4 f (r.take k) with
      | none=>rw [hr] at h;cases h
      | some l' =>
        rw [hr] at h
        cases h
        rw [ih hr hw]
        rfl
     ·rw [if_neg hx] at h
      cases h
theorem OC {α:Type} {f:α → Int × Bool} {ws:List α} {w:α} (hw:w ∈ ws) (ho:(f w).2 = false):G4 f ws = none:=by
 induction ws with
 | nil=>cases hw
 | cons x r ih =>
   rw [G4]
   rcases List.mem_cons.1 hw with rfl | h
   ·rw [if_neg (by simp [ho])]
   ·split
    ·rw [ih h];rfl
    ·rfl
theorem MR {α:Type} {f:α → Int × Bool}:∀ {ws:List α} {l:List Int},G4 f ws = some l → l.length = ws.length
 | [],l,h=>by cases h;rfl
 | x :: r,l,h=>by
   rw [G4] at h
   split at h
   ·cases hr:G4 f r with
    | none=>rw [hr] at h;cases h
    | some m =>
      rw [hr] at h
      cases h
      simp [MR hr]
   ·cases h
theorem Jv (ws:List (List UInt8)):P4 ws = G4 H4 ws:=by
 induction ws with
 | nil=>rfl
 | cons x r ih=>rw [P4,G4,ih]
def AX (r:F5) (w:List (List UInt8)):F5 × Bool :=
 if ¬ w.length = r.cols.length + 1 then (r,false)
 else match G4 (AW r.lists) (r.cols.zip (w.drop 1)) with
  | some vs=>(⟨r.lists,r.cols,r.rows ++ [vs],2⟩,true)
  | none=>(⟨r.lists,r.cols,r.rows,2⟩,false)
def L5 (r:F5) (w:List (List UInt8)):F5 × Bool :=
 if B6 w 0 = I8 ∨ B6 w 0 = W0 then o9 r w
 else if B6 w 0 = U6 ∨ B6 w 0 = O2 ∨ B6 w 0 = L4 then u3 r w
 else if B6 w 0 = N3 then AX r w
 else (r,false)
def z3:F5:=⟨[],[],[],0⟩
def W9:Nat → F5 → Nat → List UInt8 → List UInt8 → F5 × Nat × Int
 | 0,r,n,_,_=>(r,n,11)
 | f + 1,r,n,p,t =>
   if t.dropWhile (D0 10) = [] ∨ [] ∈ I0 [32] (t.takeWhile (D0 10)) then (r,n,11)
   else if B6 (I0 [32] (t.takeWhile (D0 10))) 0 = L7 then
    (if ¬ ((I0 [32] (t.takeWhile (D0 10))).length = 2 ∧ (H4 (B6 (I0 [32] (t.takeWhile (D0 10))) 1)).2 = true) then (r,n,11)
    else if ¬ (H4 (B6 (I0 [32] (t.takeWhile (D0 10))) 1)).1 = R7 p then (r,n,12)
    else if ¬ (t.dropWhile (D0 10)).drop 1 = [] then (r,n + 1,11) else (r,0,0))
   else if (L5 r (I0 [32] (t.takeWhile (D0 10)))).2 = false then (r,n,11)
   else W9 f (L5 r (I0 [32] (t.takeWhile (D0 10)))).1 (n + 1) (p ++ t.takeWhile (D0 10) ++ [10]) ((t.dropWhile (D0 10)).drop 1)
def Cf (t:List UInt8):(C4 × List (List Int)) × Nat × Int :=
 if 20000 < t.length then ((⟨[],[]⟩,[]),0,1)
 else if ¬ (W9 (t.length + 1) z3 1 [] t).2.2 = 0 then ((⟨[],[]⟩,[]),(W9 (t.length + 1) z3 1 [] t).2.1,(W9 (t.length + 1) z3 1 [] t).2.2)
 else if ¬ (K4 ⟨(W9 (t.length + 1) z3 1 [] t).1.lists,(W9 (t.length + 1) z3 1 [] t).1.cols⟩ (W9 (t.length + 1) z3 1 [] t).1.rows).2 = 0 then ((⟨[],[]⟩,[]),0,(K4 ⟨(W9 (t.length + 1) z3 1 [] t).1.lists,(W9 (t.length + 1) z3 1 [] t).1.cols⟩ (W9 (t.length + 1) z3 1 [] t).1.rows).2)
 else ((⟨(W9 (t.length + 1) z3 1 [] t).1.lists,(W9 (t.length + 1) z3 1 [] t).1.cols⟩,(W9 (t.length + 1) z3 1 [] t).1.rows),0,0)
end Go.Proofs.YtiphlhoclaogjabGreatDoor
