/- Chapter 3: the reference's reader of files as plain total functions, and that it reads what the program reads. -/
import Derived.Test.YtiphlhoclaogjabGreatDoorQAw7
set_option linter.unusedVariables false
set_option linter.unnecessarySimpa false
set_option linter.unusedSimpArgs false
namespace Go.Proofs.YtiphlhoclaogjabGreatDoor
open Go Go.Av
attribute [local irreducible] D6 B8 D8 D7 DQ E0 E1 St.le B4 B9
set_option maxRecDepth 100000
theorem UZ {n:Int} (h1:-1000000000000000000 < n) (h2:n < 1000000000000000000):Lib.atoiAll (Lib.itoa n) = .ok n:=by
 unfold Lib.itoa
 by_cases h:n < 0
 ·rw [if_pos h]
  obtain ⟨d1,d2,d3⟩:=RO n.natAbs (by omega)
  unfold Lib.atoiAll
  have e:(45:UInt8).toNat = 45:=rfl
  dsimp only
  rw [if_pos (.inr e)]
  have hm:Lib.parseMag (Lib.decDigits n.natAbs) = .ok n.natAbs:=by
   unfold Lib.parseMag
   rw [if_neg d3];exact d1
  rw [hm]
  dsimp only
  rw [if_neg (fun hh=>hh.1 e),if_neg (by omega),if_pos e]
  congr 1
  omega
 ·rw [if_neg h]
  obtain ⟨d1,d2,d3⟩:=RO n.toNat (by omega)
  cases hc:Lib.decDigits n.toNat with
  | nil=>exact absurd hc d3
  | cons c r =>
    have hh:=Ga d2 hc
    unfold Lib.atoiAll
    dsimp only
    rw [if_neg (by omega)]
    have hm:Lib.parseMag (c :: r) = .ok n.toNat:=by
     unfold Lib.parseMag
     rw [if_neg (by simp), ← hc]
     exact d1
    rw [hm]
    dsimp only
    rw [if_neg (by omega),if_neg (by omega),if_neg (by omega),show ((n.toNat:Nat):Int) = n by omega]
theorem Ua (u:Nat):H9 [45] (Lib.decDigits u) = (Lib.decDigits u,false):=by
 obtain ⟨_,d2,d3⟩:=q8 u
 cases hc:Lib.decDigits u with
 | nil=>rw [hc] at d3;simp at d3
 | cons c r =>
   have hh:=Ga d2 hc
   exact To (by intro e;rw [← e] at hh;exact absurd hh.1 (by decide))
theorem FE (n:Int):(H9 [45] (Lib.itoa n)).1 = Lib.decDigits n.natAbs:=by
 unfold Lib.itoa
 by_cases h:n < 0
 ·rw [if_pos h]
  have:=Ns [45] (Lib.decDigits n.natAbs)
  rw [show [45] ++ Lib.decDigits n.natAbs = 45 :: Lib.decDigits n.natAbs from rfl] at this
  rw [this]
 ·rw [if_neg h,Ua,show n.toNat = n.natAbs by omega]
theorem Yj {u:Nat} (h:(Lib.decDigits u).length ≤ 15):u < 1000000000000000:=by
 have h1:=Nu (q8 u).2.1
 rw [(q8 u).1] at h1
 exact Nat.lt_of_lt_of_le h1 (Nat.pow_le_pow_right (by decide) h)
theorem Ub {n:Int} (h:(Lib.decDigits n.natAbs).length ≤ 15):D1 (Lib.itoa n) = (n,true):=by
 obtain ⟨d1,d2,d3⟩:=q8 n.natAbs
 have hc:=FE n
 unfold D1
 rw [hc,if_neg (by omega),if_pos d2,d1]
 have hlen:(Lib.itoa n).length = (Lib.decDigits n.natAbs).length + (if n < 0 then 1 else 0):=by
  unfold Lib.itoa
  by_cases h:n < 0
  ·rw [if_pos h,if_pos h];rfl
  ·rw [if_neg h,if_neg h,show n.toNat = n.natAbs by omega];rfl
 by_cases h:n < 0
 ·rw [if_pos h] at hlen
  rw [if_pos (by omega),show -(n.natAbs:Int) = n by omega,decide_eq_true rfl]
 ·rw [if_neg h] at hlen
  rw [if_neg (by omega),show (n.natAbs:Int) = n by omega,decide_eq_true rfl]
theorem KW (z:List UInt8):(H4 z).2 = (D1 z).2 ∧ ((H4 z).2 = true → (H4 z).1 = (D1 z).1):=by
 cases h:(H4 z).2 with
 | true =>
   have e:=UP h
   have h15:(H9 [45] z).1.length ≤ 15:=by
    unfold H4 at h
    by_cases h1:15 < (H9 [45] z).1.length
    ·rw [if_pos h1] at h;cases h
    ·omega
   rw [← e,FE] at h15
   have:=Ub h15
   rw [e] at this
   rw [this]
   exact ⟨rfl,fun _=>rfl⟩
 | false =>
   refine ⟨?_,fun g=>by cases g⟩
   cases hr:(D1 z).2 with
   | false=>rfl
   | true =>
     exfalso
     have e:=MD hr
     have h15:=ZX hr
     have h15':=h15
     rw [← e,FE] at h15'
     have:=Yj h15'
     have ha:=UZ (n:=(D1 z).1) (by omega) (by omega)
     rw [e] at ha
     unfold H4 at h
     rw [if_neg (by omega),ha] at h
     have h:decide (Lib.itoa (D1 z).1 = z) = false:=h
     rw [decide_eq_true e] at h
     cases h
def GH (cols:List C5) (rows:List (List Int)):Int:=if rows = [] then (if cols = [] then 0 else 1) else 2
def CQ (w:List (List UInt8)):Option C5 :=
 if w.length < 6 ∨ ¬ B6 w 4 = G8 ∧ ¬ B6 w 4 = H2 then none
 else match G4 D1 (w.drop 5) with
  | none=>none
  | some ns=>if (D1 (B6 w 2)).2 = true ∧ (D1 (B6 w 3)).2 = true then some ⟨B6 w 1,3,0,(D1 (B6 w 2)).1,(D1 (B6 w 3)).1,ns,decide (B6 w 4 = H2)⟩ else none
def BP (ls:List CL) (q:C5 × List UInt8):Int × Bool :=
 if q.1.kind = 2 then (if q.1.lst < 0 ∨ (ls.length:Int) ≤ q.1.lst then (0,false) else if 0 ≤ I5 (fun c:Code=>decide (c.name = q.2)) (ls.getD q.1.lst.toNat ([],[])).2 0 then (I5 (fun c:Code=>decide (c.name = q.2)) (ls.getD q.1.lst.toNat ([],[])).2 0,true) else (0,false))
 else if (q.1.kind = 3 ∧ q.1.opt = true) ∧ q.2 = CJ then ((-1099511627776),true)
 else ((D1 q.2).1,(D1 q.2).2 && decide (¬ (D1 q.2).1 = (-1099511627776)))
def CR (ls:List CL) (cols:List C5) (w:List (List UInt8)):Option (List Int) :=
 if ¬ w.length = cols.length + 1 then none else G4 (BP ls) (cols.zip (w.drop 1))
abbrev Fl:=List CL × List C5 × List (List Int)
def R3 (x:Fl) (w:List (List UInt8)):Option Fl :=
 if [] ∈ w then none
 else if B6 w 0 = I8 then (if ¬ w.length = 2 ∨ ¬ x.2.1 = [] ∨ ¬ x.2.2 = [] then none else some (x.1 ++ [(B6 w 1,[])],x.2.1,x.2.2))
 else if B6 w 0 = W0 then (if ¬ w.length = 3 ∨ x.1 = [] ∨ ¬ x.2.1 = [] ∨ ¬ x.2.2 = [] then none else if (D1 (B6 w 2)).2 = true then some (PZ x.1 ⟨B6 w 1,(D1 (B6 w 2)).1⟩,x.2.1,x.2.2) else none)
 else if B6 w 0 = U6 then (if ¬ w.length = 2 ∨ ¬ x.2.2 = [] then none else some (x.1,x.2.1 ++ [⟨B6 w 1,1,0,0,0,[],false⟩],x.2.2))
 else if B6 w 0 = O2 then (if ¬ w.length = 3 ∨ ¬ x.2.2 = [] then none else if (D1 (B6 w 2)).2 = true then some (x.1,x.2.1 ++ [⟨B6 w 1,2,(D1 (B6 w 2)).1,0,0,[],false⟩],x.2.2) else none)
 else if B6 w 0 = L4 then (match CQ w with
  | none=>none
  | some c=>if ¬ x.2.2 = [] then none else some (x.1,x.2.1 ++ [c],x.2.2))
 else if B6 w 0 = N3 then (match CR x.1 x.2.1 w with
  | none=>none
  | some r=>some (x.1,x.2.1,x.2.2 ++ [r]))
 else none
def Fl.of (r:F5):Fl:=(r.lists,r.cols,r.rows)
abbrev l6:List UInt8:=[115,117,109,32]
def S4:Nat → Fl → Nat → List UInt8 → List UInt8 → Fl × Nat × Int
 | 0,x,n,_,_=>(x,n,11)
 | f + 1,x,n,p,t =>
   if t.dropWhile (D0 10) = [] then (x,n,11)
   else if l6.isPrefixOf (t.takeWhile (D0 10)) = true then
    (if ¬ (D1 ((t.takeWhile (D0 10)).drop 4)).2 = true then (x,n,11)
    else if ¬ (D1 ((t.takeWhile (D0 10)).drop 4)).1 = R7 p then (x,n,12)
    else if ¬ (t.dropWhile (D0 10)).drop 1 = [] then (x,n + 1,11) else (x,0,0))
   else match R3 x (I0 [32] (t.takeWhile (D0 10))) with
    | none=>(x,n,11)
    | some y=>S4 f y (n + 1) (p ++ t.takeWhile (D0 10) ++ [10]) ((t.dropWhile (D0 10)).drop 1)
theorem KA {α:Type} {f g:α → Int × Bool} (h:∀ x,(f x).2 = (g x).2 ∧ ((f x).2 = true → (f x).1 = (g x).1)) (ws:List α):G4 f ws = G4 g ws:=by
 induction ws with
 | nil=>rfl
 | cons x r ih =>
   obtain ⟨h1,h2⟩:=h x
   rw [G4,G4,ih, ← h1]
   by_cases hx:(f x).2 = true
   ·rw [if_pos hx,if_pos hx,h2 hx]
   ·rw [if_neg hx,if_neg hx]
theorem Uc {α:Type} (f:α → Int × Bool) (a b:List α):G4 f (a ++ b) = (G4 f a).bind fun x=>(G4 f b).map (x ++ ·):=by
 induction a with
 | nil =>
   show G4 f b = (G4 f b).map ([] ++ ·)
   cases G4 f b <;> rfl
 | cons y r ih =>
   rw [List.cons_append,G4,G4]
   by_cases hy:(f y).2 = true
   ·rw [if_pos hy,if_pos hy,ih]
    cases G4 f r with
    | none=>rfl
    | some m=>cases G4 f b <;> rfl
   ·rw [if_neg hy,if_neg hy];rfl
theorem SA (ls:List CL) (q:C5 × List UInt8):(AW ls q).2 = (BP ls q).2 ∧ ((AW ls q).2 = true → (AW ls q).1 = (BP ls q).1):=by
 obtain ⟨c,w⟩:=q
 unfold AW BP
 dsimp only
 by_cases h2:c.kind = 2
 ·rw [if_pos h2,if_pos h2]
  by_cases h3:c.lst < 0 ∨ (ls.length:Int) ≤ c.lst
  ·rw [if_pos h3,if_pos h3];exact ⟨rfl,fun h=>by cases h⟩
  ·rw [if_neg h3,if_neg h3]
   generalize I5 (fun c:Code=>decide (c.name = w)) (ls.getD c.lst.toNat ([],[])).2 0 = i
   by_cases hi:0 ≤ i
   ·rw [if_pos hi];exact ⟨decide_eq_true hi,fun _=>rfl⟩
   ·rw [if_neg hi]
    refine ⟨decide_eq_false hi,fun h=>absurd (of_decide_eq_true h) hi⟩
 ·rw [if_neg h2,if_neg h2]
  obtain ⟨n1,n2⟩:=KW w
  have hlast:((H4 w).2 && decide (¬ (H4 w).1 = (-1099511627776))) = ((D1 w).2 && decide (¬ (D1 w).1 = (-1099511627776))) ∧ (((H4 w).2 && decide (¬ (H4 w).1 = (-1099511627776))) = true → (H4 w).1 = (D1 w).1):=by
   cases hp:(H4 w).2 with
   | true =>
     rw [← n1,n2 hp,hp]
     exact ⟨rfl,fun _=>rfl⟩
   | false =>
     rw [← n1,hp]
     exact ⟨rfl,fun h=>by cases h⟩
  by_cases h3:c.kind = 3 ∧ w = CJ
  ·rw [if_pos h3]
   cases ho:c.opt with
   | true =>
     rw [if_pos ⟨⟨h3.1,rfl⟩,h3.2⟩]
     exact ⟨rfl,fun _=>rfl⟩
   | false =>
     rw [if_neg (by rintro ⟨⟨_,h⟩,_⟩;cases h)]
     have hna:D1 CJ = (0,false):=by decide
     rw [h3.2,hna]
     exact ⟨rfl,fun h=>by cases h⟩
  ·rw [if_neg h3,if_neg (fun h=>h3 ⟨h.1.1,h.2⟩)]
   exact hlast
theorem SB (r:F5) (w:List (List UInt8)):AX r w = match CR r.lists r.cols w with
  | some vs=>(⟨r.lists,r.cols,r.rows ++ [vs],2⟩,true)
  | none=>((AX r w).1,false):=by
 unfold AX CR
 by_cases h1:¬ w.length = r.cols.length + 1
 ·rw [if_pos h1,if_pos h1]
 ·rw [if_neg h1,if_neg h1, ← KA (SA r.lists)]
  cases G4 (AW r.lists) (r.cols.zip (w.drop 1)) <;> rfl
theorem Ud {w:List (List UInt8)} (h0:B6 w 0 = L4):CQ w = if Ah w then none else if (BO w).2 = true then some (BO w).1 else none:=by
 have e1:¬ B6 w 0 = U6:=by rw [h0];decide
 have e2:¬ B6 w 0 = O2:=by rw [h0];decide
 unfold CQ
 by_cases h:w.length < 6 ∨ ¬ B6 w 4 = G8 ∧ ¬ B6 w 4 = H2
 ·rw [if_pos h,if_pos (show Ah w from ⟨e1,e2,h⟩)]
 ·rw [if_neg h,if_neg (show ¬ Ah w from fun g=>h g.2.2)]
  unfold BO
  rw [if_neg e1,if_neg e2]
  have hl:¬ w.length < 6:=fun g=>h (.inl g)
  obtain ⟨a,b,c,d,e,f,r,rfl⟩:=aU (w:=w) (by omega)
  ·show (match G4 D1 (f :: r) with | none=>none | some ns=>if (D1 c).2 = true ∧ (D1 d).2 = true then some _ else none) = _
   have hx:P4 ((a :: b :: c :: d :: e :: f :: r).drop 2 |>.take 2 |>.append ((a :: b :: c :: d :: e :: f :: r).drop 5)) = P4 ([c,d] ++ (f :: r)):=rfl
   have hx:P4 (((a :: b :: c :: d :: e :: f :: r).drop 2).take 2 ++ (a :: b :: c :: d :: e :: f :: r).drop 5) = G4 D1 ([c,d] ++ (f :: r)):=by
    rw [Jv,KA KW];rfl
   rw [hx,Uc]
   cases G4 D1 (f :: r) with
   | none =>
     cases G4 D1 [c,d] <;> rfl
   | some ns =>
     dsimp only
     rw [G4,G4,G4]
     by_cases hc:(D1 c).2 = true
     ·by_cases hd:(D1 d).2 = true
      ·rw [if_pos ⟨hc,hd⟩,if_pos hc,if_pos hd];rfl
      ·rw [if_neg (fun g=>hd g.2),if_pos hc,if_neg hd];rfl
     ·rw [if_neg (fun g=>hc g.1),if_neg hc];rfl
theorem ZY {cols:List C5} {rows:List (List Int)}:GH cols rows = 0 ↔ cols = [] ∧ rows = []:=by
 unfold GH
 by_cases h1:rows = []
 ·by_cases h2:cols = []
  ·simp [h1,h2]
  ·simp [h1,h2]
 ·simp [h1]
theorem ZZ {cols:List C5} {rows:List (List Int)}:GH cols rows = 2 ↔ rows ≠ []:=by
 unfold GH
 by_cases h1:rows = []
 ·by_cases h2:cols = []
  ·simp [h1,h2]
  ·simp [h1,h2]
 ·simp [h1]
theorem Po {r:F5} {w:List (List UInt8)} (hst:r.st = GH r.cols r.rows) (hw:[] ∉ w) :
  (∀ r',L5 r w = (r',true) → R3 (Fl.of r) w = some (Fl.of r') ∧ r'.st = GH r'.cols r'.rows) ∧ ((L5 r w).2 = false → R3 (Fl.of r) w = none):=by
 unfold R3 L5
 rw [if_neg hw]
 obtain ⟨n1,n2⟩:=KW (B6 w 2)
 unfold Fl.of
 dsimp only
 have h0:(¬ r.cols = [] ∨ ¬ r.rows = []) ↔ ¬ r.st = 0:=by
  rw [hst,ZY]
  constructor
  ·rintro (h | h) ⟨g1,g2⟩
   ·exact h g1
   ·exact h g2
  ·intro h
   by_cases g:r.cols = []
   ·exact .inr fun g2=>h ⟨g,g2⟩
   ·exact .inl g
 have h2:¬ r.rows = [] ↔ r.st = 2:=by rw [hst,ZZ]
 by_cases k1:B6 w 0 = I8
 ·rw [if_pos (.inl k1),if_pos k1]
  unfold o9
  rw [if_pos k1]
  by_cases hs:r.st = 0
  ·rw [if_neg (by simp [hs])]
   by_cases hl:w.length = 2
   ·rw [if_pos hl,if_neg (by rintro (g | g);(exact g hl);exact h0.1 g hs)]
    refine ⟨fun r' e=>?_,fun e=>by cases e⟩
    cases e
    exact ⟨rfl,hst⟩
   ·rw [if_neg hl,if_pos (.inl hl)]
    exact ⟨(fun r' e=>by cases e),fun _=>rfl⟩
  ·rw [if_pos hs,if_pos (.inr (h0.2 hs))]
   exact ⟨(fun r' e=>by cases e),fun _=>rfl⟩
 rw [if_neg k1]
 by_cases k2:B6 w 0 = W0
 ·rw [if_pos (.inr k2),if_pos k2]
  unfold o9
  rw [if_neg k1]
  by_cases hs:r.st = 0
  ·rw [if_neg (by simp [hs])]
   by_cases hl:¬ w.length = 3 ∨ r.lists = []
   ·rw [if_pos hl,if_pos (by rcases hl with g | g;(exact .inl g);exact .inr (.inl g))]
    exact ⟨(fun r' e=>by cases e),fun _=>rfl⟩
   ·rw [if_neg hl,if_neg (by
     rintro (g | g | g)
     ·exact hl (.inl g)
     ·exact hl (.inr g)
     ·exact h0.1 g hs)]
    by_cases hn:(H4 (B6 w 2)).2 = true
    ·rw [if_pos (by rw [← n1];exact hn)]
     refine ⟨fun r' e=>?_,fun e=>by rw [hn] at e;cases e⟩
     rw [Prod.mk.injEq] at e
     obtain ⟨rfl,_⟩:=e
     rw [n2 hn]
     exact ⟨rfl,hst⟩
    ·rw [if_neg (by rw [← n1];exact hn)]
     refine ⟨fun r' e=>?_,fun _=>rfl⟩
     rw [Prod.mk.injEq] at e
     exact absurd e.2 hn
  ·rw [if_pos hs,if_pos (.inr (.inr (h0.2 hs)))]
   exact ⟨(fun r' e=>by cases e),fun _=>rfl⟩
 rw [if_neg (by rintro (g | g);(exact k1 g);exact k2 g),if_neg k2]
 by_cases k3:B6 w 0 = U6 ∨ B6 w 0 = O2 ∨ B6 w 0 = L4
 ·rw [if_pos k3]
  unfold u3
  have hst1:∀ c:C5,r.rows = [] → (1:Int) = GH (r.cols ++ [c]) r.rows:=fun c g=>by
   unfold GH
   rw [if_pos g,if_neg (by simp)]
  by_cases hs:r.st = 2
  ·rw [if_pos (.inl hs)]
   refine ⟨(fun r' e=>by cases e),fun _=>?_⟩
   have hr:=h2.2 hs
   rcases k3 with k | k | k
   ·rw [if_pos k,if_pos (.inr hr)]
   ·rw [if_neg (by rw [k];decide),if_pos k,if_pos (.inr hr)]
   ·rw [if_neg (by rw [k];decide),if_neg (by rw [k];decide),if_pos k]
    cases CQ w with
    | none=>rfl
    | some c=>dsimp only;rw [if_pos hr]
  ·have hr:r.rows = []:=Decidable.byContradiction fun g=>hs (h2.1 g)
   have hr':¬ ¬ r.rows = []:=fun g=>g hr
   by_cases hl:w.length < 2
   ·rw [if_pos (.inr hl)]
    refine ⟨fun r' e=>(by cases e),fun _=>?_⟩
    rcases k3 with k | k | k
    ·rw [if_pos k,if_pos (.inl (by omega))]
    ·rw [if_neg (by rw [k];decide),if_pos k,if_pos (.inl (by omega))]
    ·rw [if_neg (by rw [k];decide),if_neg (by rw [k];decide),if_pos k]
     unfold CQ
     rw [if_pos (.inl (by omega))]
   ·rw [if_neg (by rintro (g | g);(exact hs g);exact hl g)]
    rcases k3 with k | k | k
    ·have e2:¬ Ah w:=fun g=>g.1 k
     rw [if_pos k,if_neg e2]
     unfold BO
     rw [if_pos k]
     by_cases h3:w.length = 2
     ·rw [if_neg (by rintro (g | g);(exact g h3);exact hr' g)]
      refine ⟨fun r' e=>?_,fun e=>absurd (e.symm.trans (decide_eq_true h3)) (by decide)⟩
      rw [Prod.mk.injEq] at e
      obtain ⟨rfl,_⟩:=e
      exact ⟨rfl,hst1 _ hr⟩
     ·rw [if_pos (.inl h3)]
      refine ⟨fun r' e=>?_,fun _=>rfl⟩
      rw [Prod.mk.injEq] at e
      exact absurd (of_decide_eq_true e.2) h3
    ·have e1:¬ B6 w 0 = U6:=by rw [k];decide
     have e2:¬ Ah w:=fun g=>g.2.1 k
     rw [if_neg e1,if_pos k,if_neg e2]
     unfold BO
     rw [if_neg e1,if_pos k]
     by_cases h3:w.length = 3
     ·rw [if_pos h3,if_neg (by rintro (g | g);(exact g h3);exact hr' g)]
      dsimp only
      by_cases hn:(H4 (B6 w 2)).2 = true
      ·rw [if_pos (by rw [← n1];exact hn)]
       refine ⟨fun r' e=>?_,fun e=>by rw [hn] at e;cases e⟩
       rw [Prod.mk.injEq] at e
       obtain ⟨rfl,_⟩:=e
       rw [n2 hn]
       exact ⟨rfl,hst1 _ hr⟩
      ·rw [if_neg (by rw [← n1];exact hn)]
       refine ⟨fun r' e=>?_,fun _=>rfl⟩
       rw [Prod.mk.injEq] at e
       exact absurd e.2 hn
     ·rw [if_neg h3,if_pos (.inl h3)]
      exact ⟨(fun r' e=>by cases e),fun _=>rfl⟩
    ·have e1:¬ B6 w 0 = U6:=by rw [k];decide
     have e2:¬ B6 w 0 = O2:=by rw [k];decide
     rw [if_neg e1,if_neg e2,if_pos k,Ud k]
     by_cases hm:Ah w
     ·rw [if_pos hm,if_pos hm]
      exact ⟨(fun r' e=>by cases e),fun _=>rfl⟩
     ·rw [if_neg hm,if_neg hm]
      by_cases hc:(BO w).2 = true
      ·rw [if_pos hc]
       dsimp only
       rw [if_neg hr']
       refine ⟨fun r' e=>?_,fun e=>by rw [hc] at e;cases e⟩
       rw [Prod.mk.injEq] at e
       obtain ⟨rfl,_⟩:=e
       exact ⟨rfl,hst1 _ hr⟩
      ·rw [if_neg hc]
       refine ⟨fun r' e=>?_,fun _=>rfl⟩
       rw [Prod.mk.injEq] at e
       exact absurd e.2 hc
 rw [if_neg k3,if_neg (fun g=>k3 (.inl g)),if_neg (fun g=>k3 (.inr (.inl g))),if_neg (fun g=>k3 (.inr (.inr g)))]
 by_cases k4:B6 w 0 = N3
 ·rw [if_pos k4,if_pos k4]
  have hs:=SB r w
  cases hv:CR r.lists r.cols w with
  | none =>
    rw [hv] at hs
    refine ⟨fun r' e=>?_,fun _=>rfl⟩
    rw [hs,Prod.mk.injEq] at e
    cases e.2
  | some vs =>
    rw [hv] at hs
    dsimp only at hs ⊢
    rw [hs]
    refine ⟨fun r' e=>?_,fun e=>by cases e⟩
    cases e
    refine ⟨rfl,?_⟩
    unfold GH
    rw [if_neg (by simp)]
 ·rw [if_neg k4,if_neg k4]
  exact ⟨(fun r' e=>by cases e),fun _=>rfl⟩
theorem Ue {l:List UInt8} (hp:l6.isPrefixOf l = true):∃ u,l = l6 ++ u ∧ I0 [32] l = L7 :: I0 [32] u:=by
 have h1:=Gg hp
 refine ⟨l.drop 4,h1,?_⟩
 have h2:l = u2 [32] (L7 :: I0 [32] (l.drop 4)):=by
  have h3:=Dr (w:=[32]) (l.drop 4).length (l.drop 4)
  unfold I0
  cases hs:Q1 [32] (l.drop 4).length (l.drop 4) with
  | nil=>exact absurd hs (Cw _ _ _)
  | cons x r =>
    rw [u2, ← hs,h3]
    exact h1
 have h4:=OA (a:=32) (w:=[]) (ps:=L7 :: I0 [32] (l.drop 4)) (by simp) (by
  intro p hp
  rcases List.mem_cons.1 hp with rfl | hp
  ·decide
  ·exact OB (c:=32) _ _ (Nat.le_refl _) p hp)
 rw [← h2] at h4
 exact h4
theorem Wl {u:List UInt8} (h:(D1 u).2 = true):I0 [32] u = [u] ∧ u ≠ []:=by
 have e:=MD h
 have h32:=Pl (D1 u).1
 rw [e] at h32
 refine ⟨OA (a:=32) (w:=[]) (ps:=[u]) (by simp) (by intro p hp;rw [List.mem_singleton.1 hp];exact h32),?_⟩
 rw [← e]
 obtain ⟨b,r,e2,_⟩:=Rh (D1 u).1
 rw [e2];simp
theorem Wm {l:List UInt8} (hp:l6.isPrefixOf l = false) (h0:B6 (I0 [32] l) 0 = L7):I0 [32] l = [L7]:=by
 have h1:=Dr (w:=[32]) l.length l
 change u2 [32] (I0 [32] l) = l at h1
 cases hs:I0 [32] l with
 | nil=>exact absurd hs (Cw _ _ _)
 | cons x r =>
   rw [hs] at h0 h1
   have h0:x = L7:=h0
   subst h0
   cases r with
   | nil=>rfl
   | cons y r =>
     exfalso
     rw [u2] at h1
     rw [← h1] at hp
     have:l6.isPrefixOf (L7 ++ [32] ++ u2 [32] (y :: r)) = true:=by
      rw [List.isPrefixOf_iff_prefix]
      exact ⟨u2 [32] (y :: r),rfl⟩
     rw [this] at hp;cases hp
theorem SC {x:Fl}:R3 x [L7] = none:=by
 unfold R3
 rw [if_neg (by decide),if_neg (by decide),if_neg (by decide),if_neg (by decide),if_neg (by decide),if_neg (by decide),if_neg (by decide)]
theorem KB:∀ (f:Nat) (r:F5) (n:Nat) (p t:List UInt8),r.st = GH r.cols r.rows →
  (W9 f r n p t).2 = (S4 f (Fl.of r) n p t).2 ∧ ((W9 f r n p t).2.2 = 0 → Fl.of (W9 f r n p t).1 = (S4 f (Fl.of r) n p t).1)
 | 0,r,n,p,t,_=>⟨rfl,fun h=>by cases h⟩
 | f + 1,r,n,p,t,hst=>by
   rw [W9,S4]
   by_cases h1:t.dropWhile (D0 10) = []
   ·rw [if_pos (.inl h1),if_pos h1]
    exact ⟨rfl,fun h=>by cases h⟩
   rw [if_neg h1]
   generalize t.takeWhile (D0 10) = l at *
   generalize (t.dropWhile (D0 10)).drop 1 = u at *
   by_cases hp:l6.isPrefixOf l = true
   ·rw [if_pos hp]
    obtain ⟨v,hv,hsp⟩:=Ue hp
    have hd:l.drop 4 = v:=by rw [hv];rfl
    rw [hd,hsp]
    obtain ⟨n1,n2⟩:=KW v
    by_cases hn:(D1 v).2 = true
    ·obtain ⟨s1,s2⟩:=Wl hn
     rw [s1,if_neg (show ¬ (t.dropWhile (D0 10) = [] ∨ [] ∈ [L7,v]) by
      rintro (g | g)
      ·exact h1 g
      ·simp only [List.mem_cons,List.not_mem_nil,or_false] at g
       rcases g with g | g
       ·cases g
       ·exact s2 g.symm)]
     have e0:B6 [L7,v] 0 = L7:=rfl
     have e1:B6 [L7,v] 1 = v:=rfl
     have hP:(H4 v).2 = true:=by rw [n1];exact hn
     rw [if_pos e0,e1,if_neg (show ¬ ¬ ([L7,v].length = 2 ∧ (H4 v).2 = true) from fun g=>g ⟨rfl,hP⟩),if_neg (show ¬ ¬ (D1 v).2 = true from fun g=>g hn),n2 hP]
     by_cases h4:¬ (D1 v).1 = R7 p
     ·rw [if_pos h4,if_pos h4];exact ⟨rfl,fun h=>by cases h⟩
     rw [if_neg h4,if_neg h4]
     by_cases h5:¬ u = []
     ·rw [if_pos h5,if_pos h5];exact ⟨rfl,fun h=>by cases h⟩
     rw [if_neg h5,if_neg h5]
     exact ⟨rfl,fun _=>rfl⟩
    ·rw [if_pos hn]
     by_cases he:t.dropWhile (D0 10) = [] ∨ [] ∈ L7 :: I0 [32] v
     ·rw [if_pos he];exact ⟨rfl,fun h=>by cases h⟩
     rw [if_neg he,if_pos (show B6 (L7 :: I0 [32] v) 0 = L7 from rfl),if_pos (c:=¬ ((L7 :: I0 [32] v).length = 2 ∧ (H4 (B6 (L7 :: I0 [32] v) 1)).2 = true))]
     ·exact ⟨rfl,fun h=>by cases h⟩
     ·rintro ⟨g1,g2⟩
      have hl:(I0 [32] v).length = 1:=by simpa using g1
      have hj:=Dr (w:=[32]) v.length v
      change u2 [32] (I0 [32] v) = v at hj
      match hq:I0 [32] v,hl with
      | [y],_ =>
        rw [hq] at hj g2
        have hj:y = v:=hj
        subst hj
        exact hn (by rw [← n1];exact g2)
   ·have hp:l6.isPrefixOf l = false:=by
     cases hq:l6.isPrefixOf l with
     | true=>exact absurd hq hp
     | false=>rfl
    rw [if_neg (show ¬ l6.isPrefixOf l = true by rw [hp];exact Bool.false_ne_true)]
    by_cases h0:B6 (I0 [32] l) 0 = L7
    ·have hs:=Wm hp h0
     rw [hs,SC]
     rw [if_neg (show ¬ (t.dropWhile (D0 10) = [] ∨ [] ∈ [L7]) by rintro (g | g);(exact h1 g);revert g;decide),if_pos (show B6 [L7] 0 = L7 from rfl),if_pos (show ¬ ([L7].length = 2 ∧ (H4 (B6 [L7] 1)).2 = true) by rintro ⟨g,_⟩;cases g)]
     exact ⟨rfl,fun h=>by cases h⟩
    ·by_cases he:[] ∈ I0 [32] l
     ·rw [if_pos (show t.dropWhile (D0 10) = [] ∨ [] ∈ I0 [32] l from .inr he)]
      have:R3 (Fl.of r) (I0 [32] l) = none:=by unfold R3;rw [if_pos he]
      rw [this]
      exact ⟨rfl,fun h=>by cases h⟩
     ·rw [if_neg (show ¬ (t.dropWhile (D0 10) = [] ∨ [] ∈ I0 [32] l) by rintro (g | g);(exact h1 g);exact he g),if_neg h0]
      obtain ⟨k1,k2⟩:=Po hst he
      by_cases hb:(L5 r (I0 [32] l)).2 = false
      ·rw [if_pos hb,k2 hb]
       exact ⟨rfl,fun h=>by cases h⟩
      ·have hb:(L5 r (I0 [32] l)).2 = true:=by simpa using hb
       obtain ⟨g1,g2⟩:=k1 (L5 r (I0 [32] l)).1 (Prod.ext rfl hb)
       rw [if_neg (show ¬ (L5 r (I0 [32] l)).2 = false by rw [hb];decide),g1]
       exact KB f _ (n + 1) _ u g2
def Dw (t:List UInt8):(C4 × List (List Int)) × Nat × Int :=
 if 20000 < t.length then ((⟨[],[]⟩,[]),0,1)
 else if ¬ (S4 (t.length + 1) ([],[],[]) 1 [] t).2.2 = 0 then ((⟨[],[]⟩,[]),(S4 (t.length + 1) ([],[],[]) 1 [] t).2.1,(S4 (t.length + 1) ([],[],[]) 1 [] t).2.2)
 else if ¬ (K4 ⟨(S4 (t.length + 1) ([],[],[]) 1 [] t).1.1,(S4 (t.length + 1) ([],[],[]) 1 [] t).1.2.1⟩ (S4 (t.length + 1) ([],[],[]) 1 [] t).1.2.2).2 = 0 then ((⟨[],[]⟩,[]),0,(K4 ⟨(S4 (t.length + 1) ([],[],[]) 1 [] t).1.1,(S4 (t.length + 1) ([],[],[]) 1 [] t).1.2.1⟩ (S4 (t.length + 1) ([],[],[]) 1 [] t).1.2.2).2)
 else ((⟨(S4 (t.length + 1) ([],[],[]) 1 [] t).1.1,(S4 (t.length + 1) ([],[],[]) 1 [] t).1.2.1⟩,(S4 (t.length + 1) ([],[],[]) 1 [] t).1.2.2),0,0)
theorem KC (t:List UInt8):Cf t = Dw t:=by
 unfold Cf Dw
 obtain ⟨h1,h2⟩:=KB (t.length + 1) z3 1 [] t rfl
 rw [show Fl.of z3 = ([],[],[]) from rfl] at h1 h2
 generalize W9 (t.length + 1) z3 1 [] t = A at *
 generalize S4 (t.length + 1) ([],[],[]) 1 [] t = B at *
 obtain ⟨⟨ls,cs,rs,st⟩,n,e⟩:=A
 obtain ⟨⟨ls',cs',rs'⟩,n',e'⟩:=B
 simp only [Prod.mk.injEq] at h1
 obtain ⟨rfl,rfl⟩:=h1
 dsimp only at h2 ⊢
 by_cases hl:20000 < t.length
 ·rw [if_pos hl,if_pos hl]
 rw [if_neg hl,if_neg hl]
 by_cases he:¬ e = 0
 ·rw [if_pos he,if_pos he]
 rw [if_neg he,if_neg he]
 have h3:=h2 (Decidable.of_not_not he)
 unfold Fl.of at h3
 simp only [Prod.mk.injEq] at h3
 obtain ⟨rfl,rfl,rfl⟩:=h3
 rfl
end Go.Proofs.YtiphlhoclaogjabGreatDoor
