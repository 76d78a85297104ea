/- Chapter 3: what is read is printed (plain). -/
import Derived.Test.YtiphlhoclaogjabGreatDoorQKb7
import Derived.Test.YtiphlhoclaogjabGreatDoorQSj
set_option linter.unusedVariables false
set_option linter.unnecessarySimpa false
set_option linter.unusedSimpArgs false
namespace Go.Proofs.YtiphlhoclaogjabGreatDoor
open Go Go.Av
attribute [local irreducible] D1 B5 D5 D3 DQ D7 E0 St.le B3 B6
set_option maxRecDepth 100000
theorem Bt {z:List UInt8} (h:(H8 z).2 = true):Lib.itoa (H8 z).1 = z:=by
 unfold H8 at h ⊢
 by_cases h15:15 < (L1 [45] z).1.length
 ·rw [if_pos h15] at h;cases h
 ·rw [if_neg h15] at h ⊢
  cases ha:Lib.atoiAll z with
  | ok n=>rw [ha] at h;exact of_decide_eq_true h
  | range=>rw [ha] at h;cases h
  | _=>rw [ha] at h;cases h
theorem Gc {α:Type} {f:α → Int × Bool} {g:α → Int → List UInt8} {k:α → List UInt8} (hg:∀ x,(f x).2 = true → g x (f x).1 = k x):∀ {ws:List α} {l:List Int},S6 f ws = some l → (ws.zip l).map (fun q=>g q.1 q.2) = ws.map k
 | [],l,h=>by cases h;rfl
 | x :: r,l,h=>by
   rw [S6] at h
   split at h
   ·rename_i hx
    cases hr:S6 f r with
    | none=>rw [hr] at h;cases h
    | some m =>
      rw [hr] at h
      cases h
      rw [List.zip_cons_cons,List.map_cons,List.map_cons,Gc hg hr,hg x hx]
   ·cases h
theorem SM {ws:List (List UInt8)} {l:List Int} (h:N3 ws = some l):l.map Lib.itoa = ws:=by
 rw [KD] at h
 have h1:=Gc (f:=H8) (g:=fun _ n=>Lib.itoa n) (k:=id) (fun x hx=>Bt hx) h
 have h2:=Dq h
 rw [List.map_id] at h1
 rw [← h1]
 have e:(fun q:List UInt8 × Int=>Lib.itoa q.2) = Lib.itoa ∘ Prod.snd:=rfl
 rw [e, ← List.map_map,List.map_snd_zip (by omega)]
theorem JG {w:List (List UInt8)} (h:w.length = 2):w = [B9 w 0,B9 w 1]:=by
 match w,h with
 | [a,b],_=>rfl
theorem Yp {w:List (List UInt8)} (h:w.length = 3):w = [B9 w 0,B9 w 1,B9 w 2]:=by
 match w,h with
 | [a,b,c],_=>rfl
theorem aV {α:Type} {w:List α} (h:6 ≤ w.length):∃ a b c d e f r,w = a :: b :: c :: d :: e :: f :: r:=by
 rcases w with _ | ⟨a,_ | ⟨b,_ | ⟨c,_ | ⟨d,_ | ⟨e,_ | ⟨f,r⟩⟩⟩⟩⟩⟩
 all_goals first
  | exact ⟨_,_,_,_,_,_,_,rfl⟩
  | (exfalso;simp at h)
theorem Mk {α:Type} {p:α → Bool}:∀ {l:List α} {k:Int},0 ≤ k → 0 ≤ H5 p l k → ∃ x,l[(H5 p l k - k).toNat]? = some x ∧ p x = true ∧ k ≤ H5 p l k
 | [],k,_,h=>by simp [H5] at h
 | x :: r,k,hk,h=>by
   unfold H5 at h ⊢
   by_cases hp:p x = true
   ·rw [if_pos hp] at h ⊢
    exact ⟨x,by simp,hp,Int.le_refl _⟩
   ·rw [if_neg hp] at h ⊢
    obtain ⟨y,h1,h2,h3⟩:=Mk (l:=r) (k:=k + 1) (by omega) h
    refine ⟨y,?_,h2,by omega⟩
    rw [show (H5 p r (k + 1) - k).toNat = (H5 p r (k + 1) - (k + 1)).toNat + 1 by omega,List.getElem?_cons_succ]
    exact h1
theorem SN {w:List (List UInt8)} (h0:B9 w 0 = W2 ∨ B9 w 0 = M3 ∨ B9 w 0 = I5) (hn:¬ Dp w) (h:(CS w).2 = true):C3 (CS w).1 = w:=by
 unfold CS at h ⊢
 by_cases h1:B9 w 0 = W2
 ·rw [if_pos h1] at h ⊢
  unfold C3
  rw [if_pos rfl, ← h1]
  exact (JG (of_decide_eq_true h)).symm
 rw [if_neg h1] at h ⊢
 by_cases h2:B9 w 0 = M3
 ·rw [if_pos h2] at h ⊢
  by_cases h3:w.length = 3
  ·rw [if_pos h3] at h ⊢
   unfold C3
   dsimp only at h ⊢
   rw [if_neg (by decide),if_pos rfl,Bt h, ← h2]
   exact (Yp h3).symm
  ·rw [if_neg h3] at h;cases h
 rw [if_neg h2] at h ⊢
 have h3:B9 w 0 = I5:=by rcases h0 with h | h | h;(exact absurd h h1);(exact absurd h h2);exact h
 have h4:¬ (w.length < 6 ∨ ¬ B9 w 4 = F5 ∧ ¬ B9 w 4 = G2):=fun h=>hn ⟨h1,h2,h⟩
 cases hw:N3 ((w.drop 2).take 2 ++ w.drop 5) with
 | none=>rw [hw] at h;cases h
 | some n =>
   dsimp only
   have hi:=SM hw
   obtain ⟨a,b,c,d,e,f,r,rfl⟩:=aV (w:=w) (by
    have:=fun g=>h4 (.inl g)
    omega)
   ·have h3:a = I5:=h3
    have hi:n.map Lib.itoa = c :: d :: f :: r:=hi
    match n,hi with
    | x :: y :: m,hi =>
      simp only [List.map_cons,List.cons.injEq] at hi
      obtain ⟨rfl,rfl,hm⟩:=hi
      unfold C3
      rw [if_neg (show ¬ (3:Int) = 1 by decide),if_neg (show ¬ (3:Int) = 2 by decide)]
      unfold AQ
      subst h3
      have he:(if (decide (e = G2)) = true then G2 else F5) = e:=by
       by_cases hy:e = G2
       ·rw [decide_eq_true hy,if_pos rfl,hy]
       ·rw [decide_eq_false hy,if_neg (by decide)]
        refine (Decidable.byContradiction fun hne=>h4 (.inr ⟨fun h=>hne ?_,hy⟩))
        exact h.symm
      show I5 :: b :: Lib.itoa x :: Lib.itoa y :: (if (decide (e = G2)) = true then G2 else F5) :: (m.map Lib.itoa) = _
      rw [he,hm]
theorem Us (s:B8) (q:C1 × List UInt8) (h:(d8 s.lists q).2 = true):H2 s (q.1,(d8 s.lists q).1) = q.2:=by
 obtain ⟨c,w⟩:=q
 unfold d8 at h ⊢
 dsimp only at h ⊢
 by_cases h2:c.kind = 2
 ·rw [if_pos h2] at h ⊢
  by_cases h3:c.lst < 0 ∨ (s.lists.length:Int) ≤ c.lst
  ·rw [if_pos h3] at h;cases h
  ·rw [if_neg h3] at h ⊢
   dsimp only at h ⊢
   obtain ⟨x,g1,g2,_⟩:=Mk (Int.le_refl 0) (of_decide_eq_true h)
   unfold H2
   dsimp only
   rw [if_pos h2]
   rw [Int.sub_zero] at g1
   show (List.getD (D2 s c).2 _ _).name = w
   unfold D2
   rw [O2 g1]
   exact of_decide_eq_true g2
 ·rw [if_neg h2] at h ⊢
  by_cases h3:c.kind = 3 ∧ w = Ep
  ·rw [if_pos h3] at h ⊢
   unfold H2
   rw [if_neg h2,if_pos ⟨h3.1,rfl⟩,h3.2]
  ·rw [if_neg h3] at h ⊢
   dsimp only at h ⊢
   rw [Bool.and_eq_true] at h
   unfold H2
   dsimp only
   rw [if_neg h2,if_neg (fun g=>of_decide_eq_true h.2 g.2),Bt h.1]
def Bu (r:D6) (p:List UInt8):Prop:=(r.st = 0 → r.cols = []) ∧ (¬ r.st = 2 → r.rows = []) ∧ (∀ x ∈ r.rows,x.length = r.cols.length) ∧ p = F9 ⟨r.lists,r.cols⟩ r.rows
theorem Gd (X:List CL) (l:CL):F9 ⟨X ++ [l],[]⟩ [] = X.flatMap S0 ++ S0 l:=by
 unfold F9 l9
 simp only [List.flatMap_append,List.flatMap_cons,List.flatMap_nil,List.append_nil]
theorem SO (X:List CL):F9 ⟨X,[]⟩ [] = X.flatMap S0:=by
 unfold F9 l9
 simp only [List.flatMap_nil,List.append_nil]
theorem Ut (l:CL) (c:Code):S0 (l.1,l.2 ++ [c]) = S0 l ++ B7 (J7 c):=by
 unfold S0
 simp only [List.flatMap_append,List.flatMap_cons,List.flatMap_nil,List.append_nil,List.append_assoc]
theorem XJ (ls:List CL) (C:List C1) (c:C1):F9 ⟨ls,C ++ [c]⟩ [] = F9 ⟨ls,C⟩ [] ++ B7 (C3 c):=by
 unfold F9 l9
 simp only [List.flatMap_append,List.flatMap_cons,List.flatMap_nil,List.append_nil,List.append_assoc]
theorem XK (s:B8) (R:List (List Int)) (x:List Int):F9 s (R ++ [x]) = F9 s R ++ U4 s x:=by
 unfold F9
 simp only [List.flatMap_append,List.flatMap_cons,List.flatMap_nil,List.append_nil,List.append_assoc]
theorem SP {r:D6} {w:List (List UInt8)} {p:List UInt8} (hI:Bu r p) (h0:B9 w 0 = G6 ∨ B9 w 0 = X0) (h:(a7 r w).2 = true):Bu (a7 r w).1 (p ++ B7 w):=by
 obtain ⟨i1,i2,i3,rfl⟩:=hI
 unfold a7 at h ⊢
 by_cases h1:r.st = 0
 ·rw [if_neg (by simp [h1])] at h ⊢
  have e1:=i1 h1
  have e2:=i2 (by omega)
  by_cases h2:B9 w 0 = G6
  ·rw [if_pos h2] at h ⊢
   by_cases h3:w.length = 2
   ·rw [if_pos h3] at h ⊢
    refine ⟨fun _=>e1,fun _=>e2,(by rw [e2];intro x hx;cases hx),?_⟩
    dsimp only
    rw [e1,e2,Gd,SO]
    congr 1
    rw [JG h3,h2]
    show _ = B7 [G6,B9 w 1] ++ []
    rw [List.append_nil]
   ·rw [if_neg h3] at h;cases h
  ·rw [if_neg h2] at h ⊢
   have h4:B9 w 0 = X0:=h0.resolve_left h2
   by_cases h3:¬ w.length = 3 ∨ r.lists = []
   ·rw [if_pos h3] at h;cases h
   ·rw [if_neg h3] at h ⊢
    dsimp only at h
    have hl:w.length = 3:=Decidable.of_not_not fun g=>h3 (.inl g)
    have hne:r.lists ≠ []:=fun g=>h3 (.inr g)
    refine ⟨fun _=>e1,fun _=>e2,(by rw [e2];intro x hx;cases hx),?_⟩
    dsimp only
    rw [e1,e2]
    obtain ⟨X,l,hX⟩:∃ X l,r.lists = X ++ [l]:=⟨r.lists.dropLast,r.lists.getLast hne,(List.dropLast_concat_getLast hne).symm⟩
    rw [hX,CR,Gd,Gd,Ut,List.append_assoc]
    congr 2
    rw [Yp hl,h4]
    show _ = B7 [X0,B9 w 1,Lib.itoa (H8 (B9 w 2)).1]
    rw [Bt h]
 ·rw [if_pos h1] at h;cases h
theorem Nf {r:D6} {w:List (List UInt8)} {p:List UInt8} (hI:Bu r p) (h0:B9 w 0 = W2 ∨ B9 w 0 = M3 ∨ B9 w 0 = I5) (h:(Y7 r w).2 = true):Bu (Y7 r w).1 (p ++ B7 w):=by
 obtain ⟨i1,i2,i3,rfl⟩:=hI
 unfold Y7 at h ⊢
 by_cases h1:r.st = 2 ∨ w.length < 2
 ·rw [if_pos h1] at h;cases h
 rw [if_neg h1] at h ⊢
 by_cases h2:Dp w
 ·rw [if_pos h2] at h;cases h
 rw [if_neg h2] at h ⊢
 dsimp only at h
 have e2:=i2 fun g=>h1 (.inl g)
 refine ⟨fun g=>absurd g (show ¬ (1:Int) = 0 by decide),fun _=>e2,(by rw [e2];intro x hx;cases hx),?_⟩
 dsimp only
 rw [e2,XJ,SN h0 h2 h]
theorem Uu {r:D6} {w:List (List UInt8)} {p:List UInt8} (hI:Bu r p) (h0:B9 w 0 = L2) (h:(z6 r w).2 = true):Bu (z6 r w).1 (p ++ B7 w):=by
 obtain ⟨i1,i2,i3,rfl⟩:=hI
 unfold z6 at h ⊢
 by_cases h1:¬ w.length = r.cols.length + 1
 ·rw [if_pos h1] at h;cases h
 rw [if_neg h1] at h ⊢
 have h1:w.length = r.cols.length + 1:=Decidable.of_not_not h1
 cases hv:S6 (d8 r.lists) (r.cols.zip (w.drop 1)) with
 | none=>rw [hv] at h;cases h
 | some vs =>
   have hlen:=Dq hv
   rw [List.length_zip,List.length_drop,h1,Nat.add_sub_cancel,Nat.min_self] at hlen
   refine ⟨fun g=>absurd g (show ¬ (2:Int) = 0 by decide),fun g=>absurd rfl g,fun x hx=>?_,?_⟩
   ·rcases List.mem_append.1 hx with hx | hx
    ·exact i3 x hx
    ·rw [List.mem_singleton.1 hx];exact hlen
   ·dsimp only
    rw [XK]
    congr 1
    have hi:=Gc (f:=d8 r.lists) (g:=fun q n=>H2 ⟨r.lists,r.cols⟩ (q.1,n)) (k:=Prod.snd) (fun q hq=>Us ⟨r.lists,r.cols⟩ q hq) hv
    rw [List.map_snd_zip (by rw [List.length_drop];omega)] at hi
    unfold U4 O4
    congr 1
    have e:((r.cols.zip (w.drop 1)).zip vs).map (fun q=>H2 ⟨r.lists,r.cols⟩ (q.1.1,q.2)) = (r.cols.zip vs).map (H2 ⟨r.lists,r.cols⟩):=by
     have key:∀ (a:List C1) (b:List (List UInt8)) (c:List Int),a.length = b.length → ((a.zip b).zip c).map (fun q=>H2 ⟨r.lists,r.cols⟩ (q.1.1,q.2)) = (a.zip c).map (H2 ⟨r.lists,r.cols⟩):=by
      intro a
      induction a with
      | nil=>intro b c _;simp
      | cons x a ih =>
        intro b c h
        cases b with
        | nil=>cases h
        | cons y b =>
          cases c with
          | nil=>simp
          | cons z c =>
            simp only [List.zip_cons_cons,List.map_cons]
            rw [ih b c (by simpa using h)]
     exact key _ _ _ (by rw [List.length_drop];omega)
    dsimp only at e hi ⊢
    rw [← e,hi]
    cases w with
    | nil=>cases h1
    | cons a w=>have h0:a = L2:=h0;subst h0;rfl
theorem SQ {r:D6} {w:List (List UInt8)} {p:List UInt8} (hI:Bu r p) (h:(H4 r w).2 = true):Bu (H4 r w).1 (p ++ B7 w):=by
 unfold H4 at h ⊢
 by_cases h1:B9 w 0 = G6 ∨ B9 w 0 = X0
 ·rw [if_pos h1] at h ⊢;exact SP hI h1 h
 rw [if_neg h1] at h ⊢
 by_cases h2:B9 w 0 = W2 ∨ B9 w 0 = M3 ∨ B9 w 0 = I5
 ·rw [if_pos h2] at h ⊢;exact Nf hI h2 h
 rw [if_neg h2] at h ⊢
 by_cases h3:B9 w 0 = L2
 ·rw [if_pos h3] at h ⊢;exact Uu hI h3 h
 ·rw [if_neg h3] at h;cases h
theorem FV:∀ (ws:List (List UInt8)),Lib.join ws [32] = e9 [32] ws
 | []=>rfl
 | [x]=>by rw [Lib.join_cons,e9];simp [Lib.joinTail]
 | x :: y :: r=>by
   have:=FV (y :: r)
   rw [Lib.join_cons] at this ⊢
   rw [e9, ← this]
   simp [Lib.joinTail,List.append_assoc]
theorem Uv (l:List UInt8):B7 (U8 [32] l) = l ++ [10]:=by
 unfold B7
 rw [FV]
 unfold U8
 rw [Me]
theorem SR {t:List UInt8} (h:¬ t.dropWhile (C8 10) = []):t = t.takeWhile (C8 10) ++ [10] ++ (t.dropWhile (C8 10)).drop 1:=by
 have h1:=Mg 10 t
 have h2:=JD h
 rw [List.append_assoc]
 rw [show [10] ++ (t.dropWhile (C8 10)).drop 1 = t.dropWhile (C8 10) from h2.symm]
 exact h1.symm
theorem Ml:∀ (f:Nat) (r:D6) (n:Nat) (p t:List UInt8),Bu r p → (M9 f r n p t).2.2 = 0 →
  (M9 f r n p t).2.1 = 0 ∧ Bu (M9 f r n p t).1 (F9 ⟨(M9 f r n p t).1.lists,(M9 f r n p t).1.cols⟩ (M9 f r n p t).1.rows) ∧ p ++ t = O5 ⟨(M9 f r n p t).1.lists,(M9 f r n p t).1.cols⟩ (M9 f r n p t).1.rows
 | 0,r,n,p,t,_,h=>by cases h
 | f + 1,r,n,p,t,hI,h=>by
   rw [M9] at h ⊢
   by_cases h1:t.dropWhile (C8 10) = [] ∨ [] ∈ U8 [32] (t.takeWhile (C8 10))
   ·rw [if_pos h1] at h;cases h
   rw [if_neg h1] at h ⊢
   have hd:¬ t.dropWhile (C8 10) = []:=fun g=>h1 (.inl g)
   have hc:=SR hd
   have hsp:=Uv (t.takeWhile (C8 10))
   generalize U8 [32] (t.takeWhile (C8 10)) = w at *
   generalize t.takeWhile (C8 10) = l at *
   generalize (t.dropWhile (C8 10)).drop 1 = u at *
   by_cases h2:B9 w 0 = Y6
   ·rw [if_pos h2] at h ⊢
    by_cases h3:¬ (w.length = 2 ∧ (H8 (B9 w 1)).2 = true)
    ·rw [if_pos h3] at h;cases h
    rw [if_neg h3] at h ⊢
    obtain ⟨h3,h5⟩:=Decidable.of_not_not h3
    by_cases h4:¬ (H8 (B9 w 1)).1 = M8 p
    ·rw [if_pos h4] at h;cases h
    rw [if_neg h4] at h ⊢
    have h4:=Decidable.of_not_not h4
    by_cases h6:¬ u = []
    ·rw [if_pos h6] at h;cases h
    rw [if_neg h6] at h ⊢
    have h6:=Decidable.of_not_not h6
    obtain ⟨j1,j2,j3,j4⟩:=hI
    refine ⟨rfl,⟨j1,j2,j3,rfl⟩,?_⟩
    dsimp only
    unfold O5
    rw [← j4,hc,h6,List.append_nil, ← hsp]
    congr 1
    rw [JG h3,h2]
    unfold P6
    rw [← h4,Bt h5]
   ·rw [if_neg h2] at h ⊢
    by_cases h3:(H4 r w).2 = false
    ·rw [if_pos h3] at h;cases h
    rw [if_neg h3] at h ⊢
    have h3:(H4 r w).2 = true:=by simpa using h3
    have hI2:=SQ hI h3
    rw [hsp, ← List.append_assoc] at hI2
    obtain ⟨k1,k2,k3⟩:=Ml f _ _ _ _ hI2 h
    refine ⟨k1,k2,?_⟩
    rw [← k3]
    rw [hc]
    simp only [List.append_assoc]
theorem Mm {t:List UInt8} {n:Nat} {x:B8 × List (List Int)} (h:a8 t = (x,n,0)):n = 0 ∧ L3 x.1 x.2 = (t,0):=by
 unfold a8 at h
 by_cases h1:20000 < t.length
 ·rw [if_pos h1] at h;cases h
 rw [if_neg h1] at h
 have hI:Bu z3 []:=⟨fun _=>rfl,fun _=>rfl,(fun x hx=>by cases hx),rfl⟩
 have hk:=Ml (t.length + 1) z3 1 [] t hI
 generalize M9 (t.length + 1) z3 1 [] t = R at *
 obtain ⟨r,m,e⟩:=R
 dsimp only at h hk
 by_cases h2:¬ e = 0
 ·rw [if_pos h2] at h
  simp only [Prod.mk.injEq] at h
  exact absurd h.2.2 h2
 rw [if_neg h2] at h
 obtain ⟨_,_,k3⟩:=hk (Decidable.of_not_not h2)
 by_cases h3:¬ (L3 ⟨r.lists,r.cols⟩ r.rows).2 = 0
 ·rw [if_pos h3] at h
  simp only [Prod.mk.injEq] at h
  exact absurd h.2.2 h3
 rw [if_neg h3] at h
 have h3:=Decidable.of_not_not h3
 simp only [Prod.mk.injEq] at h
 obtain ⟨rfl,rfl,_⟩:=h
 refine ⟨rfl,?_⟩
 dsimp only
 rw [List.nil_append] at k3
 rw [BW] at h3 ⊢
 by_cases h4:¬ r9 ⟨r.lists,r.cols⟩ r.rows = 0
 ·rw [if_pos h4] at h3;exact absurd h3 h4
 rw [if_neg h4] at h3 ⊢
 rw [← k3] at h3 ⊢
 by_cases h5:20000 < t.length
 ·exact absurd h5 h1
 ·rw [if_neg h5]
end Go.Proofs.YtiphlhoclaogjabGreatDoor
namespace Go.Proofs.YtiphlhoclaogjabGreatDoor
open Go Go.Av Go.RowKit Go.Lib
set_option maxRecDepth 100000
theorem Uw {X:Nat → Prop} {w:World} (hX:∀ k,X k → k < w.heap.size) (T:TypeId) (l:List ByteArray) (N:Nat) (hl:l.length ≤ N) (hN:N ≤ maxLen) :
  Im X (w.alloc (.cells (Lib.cellsOf l N) T)) (.sl 1 ((l.map (·.data.toList)).map E2)) (.slice (some ⟨w.heap.size,0,none⟩) l.length N):=by
 have hlen:((l.map (·.data.toList)).map E2).length = l.length:=by rw [List.length_map,List.length_map]
 have:=Im.sl (U:=X) (w:=w.alloc (.cells (Lib.cellsOf l N) T)) 1 ((l.map (·.data.toList)).map E2) ⟨w.heap.size,0,none⟩ N (fun i _=>.string (l.getD i default)) (by rw [hlen];exact hl) hN (fun _ _ h=>Nat.lt_irrefl _ (hX _ h))
  (fun e he=>by
   obtain ⟨x,_,rfl⟩:=List.mem_map.1 he
   rfl)
  (fun i hi j hj=>by
   rw [hlen] at hi
   have hj0:j = 0:=by omega
   subst hj0
   have e:(⟨w.heap.size,0,none⟩:Addr).add (i * 1 + 0) = ⟨w.heap.size,i,none⟩:=by rw [Nat.mul_one,Nat.add_zero];unfold Addr.add;split <;> simp_all
   rw [e]
   have hc:(Lib.cellsOf l N)[i]? = some (.string (l.getD i default)):=by
    unfold Lib.cellsOf
    rw [List.getElem?_toArray,List.getElem?_append_left (by rw [List.length_map];exact hi),List.getElem?_map,List.getElem?_eq_getElem hi,List.getD_eq_getElem?_getD,List.getElem?_eq_getElem hi];rfl
   exact (World.cell?_alloc_new (w:=w) (Lib.cellsOf l N) T i).trans hc)
  (fun i e he j x hx=>by
   rw [List.getElem?_map,List.getElem?_map] at he
   cases hi:l[i]? with
   | none=>rw [hi] at he;cases he
   | some y =>
     rw [hi] at he
     cases he
     match j,hx with
     | 0,hx =>
       cases hx
       rw [List.getD_eq_getElem?_getD,hi]
       exact .str _)
 rw [hlen] at this
 exact this
theorem II {sep:ByteArray} (h1:1 ≤ sep.size):∀ (n:Nat) (s:ByteArray),Lib.countB s sep = n → (Lib.splitB sep 0 n s).length = n + 1
 | 0,s,_=>rfl
 | n + 1,s,h=>by
   by_cases hi:Lib.indexB s sep = -1
   ·rw [Lib.countB_miss s sep hi] at h;cases h
   ·have hge:-1 ≤ Lib.indexB s sep:=Lib.index_ge _ _
    obtain ⟨i,he⟩:∃ i:Nat,Lib.indexB s sep = i:=⟨(Lib.indexB s sep).toNat,by omega⟩
    have hc:=Lib.countB_hit s sep i h1 he
    rw [Lib.splitB_hit sep 0 n s i he,List.length_cons,II h1 n _ (by omega)]
theorem Pt (t sep:List UInt8) (ht:t.length < 4294967281) (h1:sep ≠ []):B3 Tryz.prog 38 [.str t, .str sep] (.sl 1 ((U8 sep t).map E2)):=by
 have h1':1 ≤ (⟨sep.toArray⟩:ByteArray).size:=by
  show 1 ≤ sep.toArray.size
  rw [List.size_toArray];exact List.length_pos_iff.2 h1
 refine ⟨⟨Tryz.f38,Tryz.func38,by kernel_rfl,by kernel_rfl⟩,fun X w vs hX htb hl hv=>?_⟩
 match vs,hl with
 | [y,z],_ =>
   have hv0:=hv 0 _ y rfl rfl
   have hv1:=hv 1 _ z rfl rfl
   cases hv0
   cases hv1
   obtain ⟨_,m,tt,fr,he⟩:=htb.num 0 (by decide)
   refine Calls.mono (Tryz.strings_Split ⟨t.toArray⟩ ⟨sep.toArray⟩ m w ht (by unfold World.cell?;simp [he]) h1') ?_
   rintro e w' ⟨rfl,rfl⟩
   have hlen:=II h1' _ ⟨t.toArray⟩ rfl
   have hcl:=Lib.count_le t sep
   have hle:Lib.countB ⟨t.toArray⟩ ⟨sep.toArray⟩ + 1 ≤ maxLen:=by
    have:Lib.countB ⟨t.toArray⟩ ⟨sep.toArray⟩ = Lib.count t sep:=rfl
    unfold maxLen;omega
   have him:=Uw (w:=w) hX 9 (Lib.splitB ⟨sep.toArray⟩ 0 (Lib.countB ⟨t.toArray⟩ ⟨sep.toArray⟩) ⟨t.toArray⟩) (Lib.countB ⟨t.toArray⟩ ⟨sep.toArray⟩ + 1) (by rw [hlen];exact Nat.le_refl _) hle
   rw [hlen,Lib.splitB_data] at him
   have e2:Lib.splitK (⟨sep.toArray⟩:ByteArray).data.toList 0 (Lib.countB ⟨t.toArray⟩ ⟨sep.toArray⟩) (⟨t.toArray⟩:ByteArray).data.toList = U8 sep t:=Wz h1 t
   rw [e2] at him
   have e3:Lib.cellsOf (Lib.splitB ⟨sep.toArray⟩ 0 (Lib.countB ⟨t.toArray⟩ ⟨sep.toArray⟩) ⟨t.toArray⟩) (Lib.countB ⟨t.toArray⟩ ⟨sep.toArray⟩ + 1) = ((Lib.splitB ⟨sep.toArray⟩ 0 (Lib.countB ⟨t.toArray⟩ ⟨sep.toArray⟩) ⟨t.toArray⟩).map Value.string).toArray:=by
    unfold Lib.cellsOf
    rw [hlen,Nat.sub_self,List.replicate_zero,List.append_nil]
   rw [e3] at him
   exact ⟨_,rfl,him,Q3 _ _⟩
end Go.Proofs.YtiphlhoclaogjabGreatDoor
