/- Words of a text: cut at a word, divided by a word. -/
import Derived.Test.YtiphlhoclaogjabGreatDoorQXt2
import Derived.Lib.Split
import Derived.Lib.LastIndexLaws
set_option linter.unusedVariables false
set_option linter.unnecessarySimpa false
set_option linter.unusedSimpArgs false
namespace Go.Proofs.YtiphlhoclaogjabGreatDoor
open Go Go.Av
attribute [local irreducible] D1 B5 D5 D3 DQ D7 E0 St.le B3 B6
set_option maxRecDepth 100000
def n8 (w:List UInt8):List UInt8 → Option (List UInt8 × List UInt8)
 | []=>if w.isPrefixOf [] = true then some ([],[]) else none
 | b :: r=>if w.isPrefixOf (b :: r) = true then some ([],(b :: r).drop w.length) else match n8 w r with
   | none=>none
   | some (x,y)=>some (b :: x,y)
def T5 (w:List UInt8):Nat → List UInt8 → List (List UInt8)
 | 0,t=>[t]
 | n + 1,t=>match n8 w t with
   | none=>[t]
   | some (x,y)=>x :: T5 w n y
def U8 (w t:List UInt8):List (List UInt8):=T5 w t.length t
theorem Md {w t:List UInt8} (h:w.isPrefixOf t = true):t = w ++ t.drop w.length:=by
 have:(L1 w t).2 = true:=by unfold L1;rw [if_pos h]
 have e:=Wn this
 unfold L1 at e
 rw [if_pos h] at e
 exact e
theorem GZ {w:List UInt8}:∀ {t x y:List UInt8},n8 w t = some (x,y) → t = x ++ w ++ y
 | [],x,y,h=>by
   rw [n8] at h
   split at h
   ·rename_i hp
    cases h
    have:=Md hp
    cases w with
    | nil=>rfl
    | cons a r=>cases this
   ·cases h
 | b :: r,x,y,h=>by
   rw [n8] at h
   split at h
   ·rename_i hp
    cases h
    exact Md hp
   ·cases hc:n8 w r with
    | none=>rw [hc] at h;cases h
    | some z =>
      obtain ⟨x',y'⟩:=z
      rw [hc] at h
      cases h
      have:=GZ hc
      rw [this];rfl
theorem OP (w:List UInt8) (n:Nat) (t:List UInt8):T5 w n t ≠ []:=by
 cases n with
 | zero=>simp [T5]
 | succ n=>rw [T5];split <;> simp
theorem Me {w:List UInt8}:∀ (n:Nat) (t:List UInt8),e9 w (T5 w n t) = t
 | 0,t=>rfl
 | n + 1,t=>by
   rw [T5]
   cases h:n8 w t with
   | none=>rfl
   | some z =>
     obtain ⟨x,y⟩:=z
     dsimp only
     rw [Ui _ _ (OP w n y),Me n y]
     exact (GZ h).symm
theorem OQ {a b:UInt8} {w r:List UInt8} (h:¬ a = b):(a :: w).isPrefixOf (b :: r) = false:=by
 rw [List.isPrefixOf_cons_cons,beq_false_of_ne h];rfl
theorem OR {a:UInt8} {w:List UInt8}:∀ {t:List UInt8},t.all (C8 a) = true → n8 (a :: w) t = none
 | [],_=>rfl
 | b :: r,h=>by
   rw [List.all_cons,Bool.and_eq_true] at h
   have hb:¬ a = b:=fun e=>by
    have h1:=h.1
    subst e
    unfold C8 at h1
    simp at h1
   rw [n8,OQ hb,if_neg (by simp),OR h.2]
theorem Mf {a:UInt8} {w y:List UInt8}:∀ {x:List UInt8},x.all (C8 a) = true → n8 (a :: w) (x ++ ((a :: w) ++ y)) = some (x,y)
 | [],_=>by
   have hp:(a :: w).isPrefixOf ((a :: w) ++ y) = true:=by
    have:=OL (a :: w) y
    unfold L1 at this
    split at this
    ·assumption
    ·exact absurd (Prod.mk.inj this).2 (by decide)
   have hp2:(a :: w).isPrefixOf (a :: (w ++ y)) = true:=hp
   rw [List.nil_append]
   show n8 (a :: w) (a :: (w ++ y)) = _
   rw [n8,if_pos hp2]
   show some ([],List.drop (a :: w).length ((a :: w) ++ y)) = _
   rw [List.drop_left]
 | b :: r,h=>by
   rw [List.all_cons,Bool.and_eq_true] at h
   have hb:¬ a = b:=fun e=>by
    have h1:=h.1
    subst e
    unfold C8 at h1
    simp at h1
   rw [List.cons_append,n8,OQ hb,if_neg (by simp),Mf h.2]
theorem SB {a:UInt8} {w:List UInt8}:∀ (ps:List (List UInt8)) (n:Nat),ps ≠ [] → (∀ p ∈ ps,p.all (C8 a) = true) → ps.length ≤ n + 1 → T5 (a :: w) n (e9 (a :: w) ps) = ps
 | [],n,h,_,_=>absurd rfl h
 | [p],n,_,h,_=>by
   cases n with
   | zero=>rfl
   | succ n=>rw [T5,e9,OR (h p (by simp))]
 | p :: q :: r,0,_,_,hn=>by simp at hn
 | p :: q :: r,n + 1,_,h,hn=>by
   rw [e9,List.append_assoc,T5,Mf (h p (by simp))]
   dsimp only
   rw [SB (q :: r) n (by simp) (fun x hx=>h x (by simp only [List.mem_cons] at hx ⊢;exact .inr hx)) (by simpa using hn)]
theorem Wy {a:UInt8} {w:List UInt8} {ps:List (List UInt8)} (hp:ps ≠ []) (h:∀ p ∈ ps,p.all (C8 a) = true):U8 (a :: w) (e9 (a :: w) ps) = ps :=
 SB ps _ hp h (SA _ (by simp) ps)
theorem BP (w:List UInt8):∀ t:List UInt8,n8 w t = if Lib.index t w = -1 then none else some (t.take (Lib.index t w).toNat,t.drop ((Lib.index t w).toNat + w.length))
 | []=>by
   cases w with
   | nil=>rfl
   | cons a r=>rfl
 | b :: r=>by
   rw [n8,Lib.index]
   by_cases hp:w.isPrefixOf (b :: r) = true
   ·rw [if_pos hp,if_pos hp,if_neg (by decide)]
    show _ = some (List.take 0 _,List.drop (0 + w.length) _)
    rw [Nat.zero_add];rfl
   ·rw [if_neg hp,if_neg hp,BP w r]
    by_cases hi:Lib.index r w = -1
    ·rw [if_pos hi,if_pos (beq_iff_eq.2 hi),if_pos rfl]
    ·have hge:=Lib.index_ge r w
     rw [if_neg hi,if_neg (fun e=>hi (beq_iff_eq.1 e)),if_neg (by omega)]
     dsimp only
     rw [show (Lib.index r w + 1).toNat = (Lib.index r w).toNat + 1 by omega,List.take_succ_cons,show (Lib.index r w).toNat + 1 + w.length = (Lib.index r w).toNat + w.length + 1 by omega,List.drop_succ_cons]
theorem KA (w:List UInt8):∀ (k:Nat) (t:List UInt8),Lib.splitK w 0 k t = T5 w k t
 | 0,_=>rfl
 | k + 1,t=>by
   rw [Lib.splitK,T5,BP]
   by_cases hi:Lib.index t w = -1
   ·rw [if_pos (beq_iff_eq.2 hi),if_pos hi]
   ·rw [if_neg (fun e=>hi (beq_iff_eq.1 e)),if_neg hi]
    dsimp only
    rw [Nat.add_zero,KA w k]
theorem IH {w:List UInt8} (hw:w ≠ []):∀ (n:Nat) (t:List UInt8),Lib.count t w ≤ n → T5 w n t = T5 w (Lib.count t w) t
 | 0,t,h=>by rw [Nat.le_zero.1 h]
 | n + 1,t,h=>by
   by_cases hi:Lib.index t w = -1
   ·rw [Lib.count_miss hi,T5,T5,BP,if_pos hi]
   ·have hge:=Lib.index_ge t w
    obtain ⟨i,he⟩:∃ i:Nat,Lib.index t w = i:=⟨(Lib.index t w).toNat,by omega⟩
    have hc:=Lib.count_hit hw he
    rw [hc,Nat.add_comm 1,T5,T5,BP,if_neg hi,he]
    dsimp only
    rw [Int.toNat_natCast,IH hw n _ (by omega)]
theorem KB {w:List UInt8} (hw:w ≠ []):∀ (n:Nat) (t:List UInt8),t.length ≤ n → Lib.count t w ≤ t.length
 | 0,t,ht=>by
   have:t = []:=List.eq_nil_of_length_eq_zero (by omega)
   subst this
   rw [Lib.count_miss]
   ·exact Nat.le_refl _
   ·cases w with
    | nil=>exact absurd rfl hw
    | cons a r=>rfl
 | n + 1,t,ht=>by
   by_cases hi:Lib.index t w = -1
   ·rw [Lib.count_miss hi];exact Nat.zero_le _
   ·have hge:=Lib.index_ge t w
    obtain ⟨i,he⟩:∃ i:Nat,Lib.index t w = i:=⟨(Lib.index t w).toNat,by omega⟩
    have hr:=Lib.index_room t w (by omega)
    have hwl:1 ≤ w.length:=List.length_pos_iff.2 hw
    have:=KB hw n (t.drop (i + w.length)) (by rw [List.length_drop];omega)
    rw [Lib.count_hit hw he]
    rw [List.length_drop] at this
    omega
theorem Wz {w:List UInt8} (hw:w ≠ []) (t:List UInt8):Lib.split t w = U8 w t:=by
 unfold Lib.split U8
 rw [KA,IH hw t.length t (KB hw _ t (Nat.le_refl _))]
theorem Ga (w:List UInt8):∀ (n:Nat) (t:List UInt8),(T5 w n t).length ≤ n + 1
 | 0,_=>Nat.le_refl _
 | n + 1,t=>by
   rw [T5]
   split
   ·simp
   ·have:=Ga w n (by assumption)
    rename_i x y _
    have:=Ga w n y
    rw [List.length_cons];omega
end Go.Proofs.YtiphlhoclaogjabGreatDoor
namespace Go.Proofs.YtiphlhoclaogjabGreatDoor
open Go Go.Av
attribute [local irreducible] D1 B5 D5 D3 DQ D7 E0 St.le B3 B6
set_option maxRecDepth 100000
theorem SC {c:UInt8}:∀ {n u:List UInt8},n.all (C8 c) = true → (n ++ c :: u).takeWhile (C8 c) = n ∧ (n ++ c :: u).dropWhile (C8 c) = c :: u
 | [],u,_=>by
   have e:C8 c c = false:=by unfold C8;simp
   rw [List.nil_append,List.takeWhile_cons,List.dropWhile_cons,e]
   exact ⟨rfl,rfl⟩
 | a :: r,u,h=>by
   rw [List.all_cons,Bool.and_eq_true] at h
   obtain ⟨h1,h2⟩:=SC (u:=u) h.2
   rw [List.cons_append,List.takeWhile_cons,List.dropWhile_cons,h.1,h1,h2]
   exact ⟨rfl,rfl⟩
theorem JD {c:UInt8}:∀ {t:List UInt8},t.dropWhile (C8 c) ≠ [] → t.dropWhile (C8 c) = c :: (t.dropWhile (C8 c)).drop 1
 | [],h=>absurd rfl h
 | a :: r,h=>by
   rw [List.dropWhile_cons] at h ⊢
   by_cases ha:C8 c a = true
   ·rw [if_pos ha] at h ⊢
    exact JD h
   ·rw [if_neg ha]
    unfold C8 at ha
    have:a = c:=by simpa using ha
    rw [this];rfl
theorem Mg (c:UInt8) (t:List UInt8):t.takeWhile (C8 c) ++ t.dropWhile (C8 c) = t:=List.takeWhile_append_dropWhile
structure StmR (s:B8) (x:au):Prop where
 ne:x.name ≠ []
 sp:x.name.all (C8 32) = true
 rig:aN s x.x = true
abbrev Uj (c:UInt8):Prop:=c = 10 ∨ c = 44 ∨ c = 59
theorem Uk {c:UInt8} (hc:Uj c) {l:List UInt8} (h:l.all CO = true):l.all (C8 c) = true:=by
 rw [List.all_eq_true] at h ⊢
 intro b hb
 have:=h b hb
 unfold CO at this
 have:=of_decide_eq_true this
 unfold C8
 rw [decide_eq_false (by intro e;subst e;revert this;rcases hc with rfl | rfl | rfl <;> decide)];rfl
theorem OS {c:UInt8} (hc:Uj c) (n:Int):(Lib.itoa n).all (C8 c) = true:=by
 unfold Lib.itoa
 by_cases h:n < 0
 ·rw [if_pos h,List.all_cons]
  obtain ⟨_,d2,_⟩:=j9 n.natAbs
  rw [Uk hc (by rw [List.all_eq_true] at d2 ⊢;exact fun c hc=>MN (d2 c hc))]
  rcases hc with rfl | rfl | rfl <;> rfl
 ·rw [if_neg h]
  obtain ⟨_,d2,_⟩:=j9 n.toNat
  exact Uk hc (by rw [List.all_eq_true] at d2 ⊢;exact fun c hc=>MN (d2 c hc))
theorem XA {c:UInt8} (hc:Uj c) {nm:List UInt8} (h:D0 nm = true):nm.all (C8 c) = true:=Uk hc (Rk h).1
theorem KC {nm:List UInt8} (h:D0 nm = true):nm ≠ [] ∧ nm.all (C8 32) = true:=by
 obtain ⟨h1,_,b,r,hb,_⟩:=Rk h
 refine ⟨by rw [hb];simp,?_⟩
 rw [List.all_eq_true] at h1 ⊢
 intro c hc
 have:=h1 c hc
 unfold CO at this
 have:=of_decide_eq_true this
 unfold C8
 rw [decide_eq_false (by intro e;subst e;revert this;decide)];rfl
end Go.Proofs.YtiphlhoclaogjabGreatDoor
namespace Go.Proofs.YtiphlhoclaogjabGreatDoor
open Go Go.Av
attribute [local irreducible] D1 B5 D5 D3 DQ D7 E0 St.le B3 B6
set_option maxRecDepth 100000
abbrev B9 (ws:List (List UInt8)) (i:Nat):List UInt8:=ws.getD i []
theorem H1 {ws:List (List UInt8)} {i:Nat} (h:i < ws.length):ws[i]? = some (B9 ws i):=by
 rw [B9,List.getD_eq_getElem?_getD,List.getElem?_eq_getElem h];rfl
def Ul:List CL → Code → List CL
 | [],_=>[]
 | [l],c=>[(l.1,l.2 ++ [c])]
 | l :: m :: r,c=>l :: Ul (m :: r) c
theorem CR (X:List CL) (l:CL) (c:Code):Ul (X ++ [l]) c = X ++ [(l.1,l.2 ++ [c])]:=by
 induction X with
 | nil=>rfl
 | cons x X ih =>
   cases X with
   | nil=>rfl
   | cons y X=>exact congrArg (x :: ·) ih
def a7 (r:D6) (w:List (List UInt8)):D6 × Bool :=
 if ¬ r.st = 0 then (r,false)
 else if B9 w 0 = G6 then (if w.length = 2 then (⟨r.lists ++ [(B9 w 1,[])],r.cols,r.rows,r.st⟩,true) else (r,false))
 else if ¬ w.length = 3 ∨ r.lists = [] then (r,false)
 else (⟨Ul r.lists ⟨B9 w 1,(H8 (B9 w 2)).1⟩,r.cols,r.rows,r.st⟩,(H8 (B9 w 2)).2)
def CS (w:List (List UInt8)):C1 × Bool :=
 if B9 w 0 = W2 then (⟨B9 w 1,1,0,0,0,[],false⟩,decide (w.length = 2))
 else if B9 w 0 = M3 then (if w.length = 3 then (⟨B9 w 1,2,(H8 (B9 w 2)).1,0,0,[],false⟩,(H8 (B9 w 2)).2) else (⟨B9 w 1,2,0,0,0,[],false⟩,false))
 else match N3 ((w.drop 2).take 2 ++ w.drop 5) with
  | some n=>(⟨B9 w 1,3,0,n.getD 0 0,n.getD 1 0,n.drop 2,decide (B9 w 4 = G2)⟩,true)
  | none=>(⟨B9 w 1,3,0,0,0,[],false⟩,false)
def Dp (w:List (List UInt8)):Prop:=¬ B9 w 0 = W2 ∧ ¬ B9 w 0 = M3 ∧ (w.length < 6 ∨ ¬ B9 w 4 = F5 ∧ ¬ B9 w 4 = G2)
instance (w:List (List UInt8)):Decidable (Dp w):=by unfold Dp;infer_instance
def Y7 (r:D6) (w:List (List UInt8)):D6 × Bool :=
 if r.st = 2 ∨ w.length < 2 then (r,false)
 else if Dp w then (⟨r.lists,r.cols,r.rows,1⟩,false)
 else (⟨r.lists,r.cols ++ [(CS w).1],r.rows,1⟩,(CS w).2)
def d8 (ls:List CL) (q:C1 × List UInt8):Int × Bool :=
 if q.1.kind = 2 then (if q.1.lst < 0 ∨ (ls.length:Int) ≤ q.1.lst then (0,false) else (H5 (fun c:Code=>decide (c.name = q.2)) (ls.getD q.1.lst.toNat ([],[])).2 0,decide (0 ≤ H5 (fun c:Code=>decide (c.name = q.2)) (ls.getD q.1.lst.toNat ([],[])).2 0)))
 else if q.1.kind = 3 ∧ q.2 = Ep then ((-1099511627776),q.1.opt)
 else ((H8 q.2).1,(H8 q.2).2 && decide (¬ (H8 q.2).1 = (-1099511627776)))
def S6 {α:Type} (f:α → Int × Bool):List α → Option (List Int)
 | []=>some []
 | w :: r=>if (f w).2 = true then (S6 f r).map ((f w).1 :: ·) else none
theorem SD {α:Type} {f:α → Int × Bool} {ws:List α} {k:Nat} {w:α} {l:List Int} (h:S6 f (ws.take k) = some l) (hw:ws[k]? = some w) (ho:(f w).2 = true):S6 f (ws.take (k + 1)) = some (l ++ [(f w).1]):=by
 induction ws generalizing k l with
 | nil=>simp at hw
 | cons x r ih =>
   cases k with
   | zero =>
     simp only [List.getElem?_cons_zero,Option.some.injEq] at hw
     subst hw
     simp only [List.take_zero,S6,Option.some.injEq] at h
     subst h
     simp [S6,ho]
   | succ k =>
     rw [List.getElem?_cons_succ] at hw
     rw [List.take_succ_cons,S6] at h
     rw [List.take_succ_cons,S6]
     by_cases hx:(f x).2 = true
     ·rw [if_pos hx] at h ⊢
      cases hr:S6 f (r.take k) with
      | none=>rw [hr] at h;cases h
      | some l' =>
        rw [hr] at h
        cases h
        rw [ih hr hw]
        rfl
     ·rw [if_neg hx] at h
      cases h
theorem XB {α:Type} {f:α → Int × Bool} {ws:List α} {w:α} (hw:w ∈ ws) (ho:(f w).2 = false):S6 f ws = none:=by
 induction ws with
 | nil=>cases hw
 | cons x r ih =>
   rw [S6]
   rcases List.mem_cons.1 hw with rfl | h
   ·rw [if_neg (by simp [ho])]
   ·split
    ·rw [ih h];rfl
    ·rfl
theorem Dq {α:Type} {f:α → Int × Bool}:∀ {ws:List α} {l:List Int},S6 f ws = some l → l.length = ws.length
 | [],l,h=>by cases h;rfl
 | x :: r,l,h=>by
   rw [S6] at h
   split at h
   ·cases hr:S6 f r with
    | none=>rw [hr] at h;cases h
    | some m =>
      rw [hr] at h
      cases h
      simp [Dq hr]
   ·cases h
theorem KD (ws:List (List UInt8)):N3 ws = S6 H8 ws:=by
 induction ws with
 | nil=>rfl
 | cons x r ih=>rw [N3,S6,ih]
def z6 (r:D6) (w:List (List UInt8)):D6 × Bool :=
 if ¬ w.length = r.cols.length + 1 then (r,false)
 else match S6 (d8 r.lists) (r.cols.zip (w.drop 1)) with
  | some vs=>(⟨r.lists,r.cols,r.rows ++ [vs],2⟩,true)
  | none=>(⟨r.lists,r.cols,r.rows,2⟩,false)
def H4 (r:D6) (w:List (List UInt8)):D6 × Bool :=
 if B9 w 0 = G6 ∨ B9 w 0 = X0 then a7 r w
 else if B9 w 0 = W2 ∨ B9 w 0 = M3 ∨ B9 w 0 = I5 then Y7 r w
 else if B9 w 0 = L2 then z6 r w
 else (r,false)
def z3:D6:=⟨[],[],[],0⟩
def M9:Nat → D6 → Nat → List UInt8 → List UInt8 → D6 × Nat × Int
 | 0,r,n,_,_=>(r,n,11)
 | f + 1,r,n,p,t =>
   if t.dropWhile (C8 10) = [] ∨ [] ∈ U8 [32] (t.takeWhile (C8 10)) then (r,n,11)
   else if B9 (U8 [32] (t.takeWhile (C8 10))) 0 = Y6 then
    (if ¬ ((U8 [32] (t.takeWhile (C8 10))).length = 2 ∧ (H8 (B9 (U8 [32] (t.takeWhile (C8 10))) 1)).2 = true) then (r,n,11)
    else if ¬ (H8 (B9 (U8 [32] (t.takeWhile (C8 10))) 1)).1 = M8 p then (r,n,12)
    else if ¬ (t.dropWhile (C8 10)).drop 1 = [] then (r,n + 1,11) else (r,0,0))
   else if (H4 r (U8 [32] (t.takeWhile (C8 10)))).2 = false then (r,n,11)
   else M9 f (H4 r (U8 [32] (t.takeWhile (C8 10)))).1 (n + 1) (p ++ t.takeWhile (C8 10) ++ [10]) ((t.dropWhile (C8 10)).drop 1)
def a8 (t:List UInt8):(B8 × List (List Int)) × Nat × Int :=
 if 20000 < t.length then ((⟨[],[]⟩,[]),0,1)
 else if ¬ (M9 (t.length + 1) z3 1 [] t).2.2 = 0 then ((⟨[],[]⟩,[]),(M9 (t.length + 1) z3 1 [] t).2.1,(M9 (t.length + 1) z3 1 [] t).2.2)
 else if ¬ (L3 ⟨(M9 (t.length + 1) z3 1 [] t).1.lists,(M9 (t.length + 1) z3 1 [] t).1.cols⟩ (M9 (t.length + 1) z3 1 [] t).1.rows).2 = 0 then ((⟨[],[]⟩,[]),0,(L3 ⟨(M9 (t.length + 1) z3 1 [] t).1.lists,(M9 (t.length + 1) z3 1 [] t).1.cols⟩ (M9 (t.length + 1) z3 1 [] t).1.rows).2)
 else ((⟨(M9 (t.length + 1) z3 1 [] t).1.lists,(M9 (t.length + 1) z3 1 [] t).1.cols⟩,(M9 (t.length + 1) z3 1 [] t).1.rows),0,0)
end Go.Proofs.YtiphlhoclaogjabGreatDoor
