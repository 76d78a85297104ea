/- Least squares: when there is a model. Plain. -/
import Derived.Test.YtbhegmcbpolemaaDoorSJp6
set_option linter.unusedVariables false
set_option linter.unnecessarySimpa false
set_option linter.unusedSimpArgs false
namespace Go.Proofs.YtbhegmcbpolemaaDoor
open Go Go.Av
attribute [local irreducible] E3 B5 F2 F0 DQ F5 G8 St.le B6 D3
set_option maxRecDepth 100000
theorem n5 {α:Type} {l:List α} {p:α → Bool} (h:∀ x ∈ l,p x = false):l.any p = false:=by
 cases e:l.any p with
 | false=>rfl
 | true =>
   obtain ⟨x,hx,hp⟩:=List.any_eq_true.1 e
   rw [h x hx] at hp;cases hp
theorem Lh (a:List (List Int)) (h1:a.length ≠ 0) (h2:a.length ≤ 5) (h3:∀ r ∈ a,r.length = a.length):H1 a = 0 ∨ H1 a = 2 ∨ H1 a = 14:=by
 unfold H1
 rw [if_neg h1,if_neg (by omega),if_neg (by rw [n5 fun r h=>by simp [h3 r h]];simp)]
 split
 ·exact .inr (.inl rfl)
 ·split
  ·exact .inr (.inr rfl)
  ·exact .inl rfl
theorem s9 {l:List (List Int)} {r:List Int} (h:l[0]? = some r):C8 l = r.length:=by
 unfold C8;rw [List.getD_eq_getElem?_getD,h];rfl
theorem X1 (l:List (List Int)):X0 l = true ↔ (1 ≤ l.length ∧ l.length ≤ 200 ∧ 1 ≤ C8 l ∧ C8 l ≤ 5) ∧ ∀ r ∈ l,r.length = C8 l ∧ ∀ x ∈ r, -1000000 ≤ x ∧ x ≤ 1000000:=by
 unfold X0
 rw [Bool.and_eq_true,decide_eq_true_iff,List.all_eq_true]
 refine and_congr_right fun _=>forall_congr' fun r=>forall_congr' fun _=>?_
 rw [Bool.and_eq_true,decide_eq_true_iff,List.all_eq_true]
 refine and_congr_right fun _=>forall_congr' fun x=>forall_congr' fun _=>?_
 rw [decide_eq_true_iff]
structure w9 (l:List (List Int)) (n:Nat) (m:CQ):Prop where
 det:dF l n ≠ 0
 len:m.coefs.length = n
 coef:∀ k,k < n → m.coefs[k]? = J8 (kF l n k) (dF l n)
 res:J8 (rF l n) (dF l n) = some m.res
 tot:CP l = some m.tot
 cnt:m.cnt = l.length
 free:m.free = l.length - n
theorem Pd {l:List (List Int)} {m:CQ} (h:Y8 l = (0,m)):X0 l = true ∧ 2 ≤ C8 l ∧ C8 l ≤ 4 ∧ w9 l (C8 l) m:=by
 unfold Y8 at h
 split at h
 rotate_left
 ·cases h
 rename_i hc
 refine ⟨hc.1,hc.2.1,hc.2.2,?_⟩
 obtain ⟨hx,h2,h4⟩:=hc
 have hl:=fun r hr=>(((X1 l).1 hx).2 r hr).1
 split at h
 ·rename_i h1
  have:=congrArg Prod.fst h
  exact absurd this h1
 rename_i hs
 split at h
 ·rename_i h1
  have:=congrArg Prod.fst h
  exact absurd this h1
 rename_i hr
 split at h
 rotate_left
 ·cases h
 rename_i t ht
 have hm:=(congrArg Prod.snd h).symm
 simp only at hm
 simp only [ne_eq,Classical.not_not] at hs hr
 have hs0:=hs
 have hr0:=hr
 unfold U6 at hs
 split at hs
 ·rename_i h1;exact absurd hs h1
 split at hs
 ·cases hs
 split at hs
 ·rename_i h1;exact absurd hs h1
 split at hs
 ·cases hs
 rename_i q1 q2 q3 q4
 rw [Ak] at q4
 have hsl:∃ L,n8 (fun k=>J8 (F8 (J9 (D2 (l.map B8) (C8 l)) (N9 l (C8 l)) k)) (F8 (D2 (l.map B8) (C8 l)))) (D2 (l.map B8) (C8 l)).length = some L ∧ (U6 (D2 (l.map B8) (C8 l)) (N9 l (C8 l))).2 = L:=by
  split at hs
  ·rename_i L hL
   refine ⟨L,hL,?_⟩
   unfold U6
   rw [if_neg q1,if_neg q2,if_neg q3,if_neg (by rw [Ak];exact q4),hL]
  ·cases hs
 obtain ⟨L,hL,hL2⟩:=hsl
 rw [L0] at hL
 have hlen:=w8 hL
 have hrl:J8 (F8 (D2 (l.map H2) (C8 l + 1))) (F8 (D2 (l.map B8) (C8 l))) = some (j7 (D2 (l.map H2) (C8 l + 1)) (D2 (l.map B8) (C8 l))).2:=by
  unfold j7 at hr ⊢
  by_cases p1:H1 (D2 (l.map H2) (C8 l + 1)) ≠ 0
  ·rw [if_pos p1] at hr;exact absurd hr p1
  have p3:¬ F8 (D2 (l.map B8) (C8 l)) = 0:=by rw [Ak];exact q4
  rw [if_neg p1,if_neg q1,if_neg p3] at hr ⊢
  split at hr
  ·rename_i p hp;rw [hp]
  ·cases hr
 rw [Pb hl (by omega) q4,Ak] at hrl
 subst hm
 rw [hL2]
 refine ⟨q4,hlen,fun k hk=>?_,hrl,ht,rfl,by rw [hlen]⟩
 rw [Hf hL k hk,Pa,Ak]
theorem Li {l:List (List Int)} (hx:X0 l = true) (hn:2 ≤ C8 l ∧ C8 l ≤ 4) (h:(Y8 l).1 ≠ 0):(Y8 l).1 = 15 ∨ (Y8 l).1 = 14 ∨ (Y8 l).1 = 2:=by
 have hc:∀ {a:List (List Int)} {m:Nat},a.length = m → 1 ≤ m → m ≤ 5 → (∀ r ∈ a,r.length = m) → H1 a ≠ 0 → H1 a = 15 ∨ H1 a = 14 ∨ H1 a = 2:=fun ha h1 h2 h3 h4=>by
  rcases Lh _ (by rw [ha];omega) (by rw [ha];exact h2) (by rw [ha];exact h3) with h5 | h5 | h5
  ·exact absurd h5 h4
  ·exact .inr (.inr h5)
  ·exact .inr (.inl h5)
 have hsol:(U6 (D2 (l.map B8) (C8 l)) (N9 l (C8 l))).1 ≠ 0 → (U6 (D2 (l.map B8) (C8 l)) (N9 l (C8 l))).1 = 15 ∨ (U6 (D2 (l.map B8) (C8 l)) (N9 l (C8 l))).1 = 14 ∨ (U6 (D2 (l.map B8) (C8 l)) (N9 l (C8 l))).1 = 2:=by
  unfold U6
  split
  ·rename_i h1;exact fun _=>hc (L0 _ _) (by omega) (by omega) n3 h1
  rw [if_neg (by simp [L0,NX])]
  split
  ·rename_i h1 h2
   intro _
   have key:∀ m,m ≤ C8 l → T4 (fun k=>H1 (J9 (D2 (l.map B8) (C8 l)) (N9 l (C8 l)) k)) m ≠ 0 → T4 (fun k=>H1 (J9 (D2 (l.map B8) (C8 l)) (N9 l (C8 l)) k)) m = 15 ∨ T4 (fun k=>H1 (J9 (D2 (l.map B8) (C8 l)) (N9 l (C8 l)) k)) m = 14 ∨ T4 (fun k=>H1 (J9 (D2 (l.map B8) (C8 l)) (N9 l (C8 l)) k)) m = 2:=fun m hm=>by
    induction m with
    | zero=>exact fun h=>absurd rfl h
    | succ m ih =>
      rw [T4]
      split
      ·exact ih (by omega)
      ·exact fun h=>hc (m:=C8 l) (by rw [BV,L0]) (by omega) (by omega) (NY (L0 _ _) n3) h
   rw [L0] at h2 ⊢
   exact key _ (Nat.le_refl _) h2
  split
  ·exact fun _=>.inl rfl
  split
  ·exact fun h=>absurd rfl h
  ·exact fun _=>.inr (.inl rfl)
 have hrat:(j7 (D2 (l.map H2) (C8 l + 1)) (D2 (l.map B8) (C8 l))).1 ≠ 0 → (j7 (D2 (l.map H2) (C8 l + 1)) (D2 (l.map B8) (C8 l))).1 = 15 ∨ (j7 (D2 (l.map H2) (C8 l + 1)) (D2 (l.map B8) (C8 l))).1 = 14 ∨ (j7 (D2 (l.map H2) (C8 l + 1)) (D2 (l.map B8) (C8 l))).1 = 2:=by
  unfold j7
  split
  ·rename_i h1;exact fun _=>hc (L0 _ _) (by omega) (by omega) n3 h1
  split
  ·rename_i h1;exact fun _=>hc (L0 _ _) (by omega) (by omega) n3 h1
  split
  ·exact fun _=>.inl rfl
  split
  ·exact fun h=>absurd rfl h
  ·exact fun _=>.inr (.inl rfl)
 unfold Y8 at h ⊢
 rw [if_pos ⟨hx,hn.1,hn.2⟩] at h ⊢
 split at h
 ·rename_i h1;rw [if_pos h1];exact hsol h1
 rename_i h1
 rw [if_neg h1]
 split at h
 ·rename_i h2;rw [if_pos h2];exact hrat h2
 rename_i h2
 rw [if_neg h2]
 split at h
 ·exact absurd rfl h
 ·exact .inr (.inl rfl)
end Go.Proofs.YtbhegmcbpolemaaDoor
