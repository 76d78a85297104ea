/- Least squares: when there is a model. Plain. -/
import Derived.Test.YtbhegmcbpolemaaDoorRJp6
set_option linter.unusedVariables false
set_option linter.unnecessarySimpa false
set_option linter.unusedSimpArgs false
namespace Go.Proofs.YtbhegmcbpolemaaDoor
open Go Go.Av
attribute [local irreducible] E2 B3 F6 E9 DQ G2 H3 St.le B4 D7
set_option maxRecDepth 100000
theorem BR {num den:Int} (h:den ≠ 0) (h1:-mF ≤ num ∧ num ≤ mF) (h2:-mF ≤ den ∧ den ≤ mF):∃ p,F7 num den = some p:=by
 rw [Fe h]
 have a1:num.natAbs / Nat.gcd den.natAbs num.natAbs ≤ num.natAbs:=Nat.div_le_self ..
 have a2:den.natAbs / Nat.gcd den.natAbs num.natAbs ≤ den.natAbs:=Nat.div_le_self ..
 unfold mF at h1 h2
 rw [if_pos ⟨by omega,by omega⟩]
 exact ⟨_,rfl⟩
theorem PR {r:List Int} {B:Int} (h:∀ x ∈ r, -B ≤ x ∧ x ≤ B):M6 r ≤ r.length * B:=by
 induction r with
 | nil=>simp [M6]
 | cons x r ih =>
   have h1:=ih fun y hy=>h y (by simp [hy])
   have h2:=h x (by simp)
   rw [M6,List.length_cons,Int.natCast_succ,Int.add_mul,Int.one_mul];omega
theorem PS {a:List (List Int)} {B:Int} {n:Nat} (hr:∀ r ∈ a,r.length = n) (hB:∀ r ∈ a,∀ x ∈ r, -B ≤ x ∧ x ≤ B) (h1:1 ≤ n * B):O1 a ≤ (n * B) ^ a.length:=by
 induction a with
 | nil=>simp [O1]
 | cons r s ih =>
   have h2:=ih (fun x hx=>hr x (by simp [hx])) fun x hx=>hB x (by simp [hx])
   have h3:=PR (hB r (by simp))
   rw [hr r (by simp)] at h3
   rw [O1,List.length_cons,Int.pow_succ,Int.mul_comm]
   have h4:1 ≤ O1 s:=HO s
   exact Int.mul_le_mul h2 (by unfold BK;omega) (by unfold BK;omega) (by omega)
theorem U6 {α:Type} {l:List α} {p:α → Bool} (h:∀ x ∈ l,p x = false):l.any p = false:=by
 cases e:l.any p with
 | false=>rfl
 | true =>
   obtain ⟨x,hx,hp⟩:=List.any_eq_true.1 e
   rw [h x hx] at hp;cases hp
theorem DS {a:List (List Int)} {B:Int} {n:Nat} (ha:a.length = n) (hn:1 ≤ n ∧ n ≤ 5) (hr:∀ r ∈ a,r.length = n) (hB:∀ r ∈ a,∀ x ∈ r, -B ≤ x ∧ x ≤ B) (h0:1 ≤ B ∧ B ≤ 2147483648) (hp:((n:Int) * B) ^ n ≤ 1329227995784915872903807060280344576):H4 a = 0:=by
 have h1:1 ≤ (n:Int) * B:=by
  have:=Int.mul_le_mul (show (1:Int) ≤ n by omega) h0.1 (by omega) (by omega)
  omega
 have h2:=PS hr hB h1
 rw [ha] at h2
 unfold H4
 rw [ha,if_neg (by omega),if_neg (by omega),if_neg,if_neg,if_neg (by omega)]
 ·rw [U6 fun r h=>U6 fun x hx=>by have:=hB r h x hx;simp;omega];simp
 ·rw [U6 fun r h=>by simp [hr r h]];simp
theorem q8 {l:List (List Int)} {r:List Int} (h:l[0]? = some r):E8 l = r.length:=by
 unfold E8;rw [List.getD_eq_getElem?_getD,h];rfl
theorem U7 (l:List (List Int)):V8 l = true ↔ (1 ≤ l.length ∧ l.length ≤ 200 ∧ 1 ≤ E8 l ∧ E8 l ≤ 5) ∧ ∀ r ∈ l,r.length = E8 l ∧ ∀ x ∈ r, -1000000 ≤ x ∧ x ≤ 1000000:=by
 unfold V8
 rw [Bool.and_eq_true,decide_eq_true_iff,List.all_eq_true]
 refine and_congr_right fun _=>forall_congr' fun r=>forall_congr' fun _=>?_
 rw [Bool.and_eq_true,decide_eq_true_iff,List.all_eq_true]
 refine and_congr_right fun _=>forall_congr' fun x=>forall_congr' fun _=>?_
 rw [decide_eq_true_iff]
structure Lg (l:List (List Int)) (n:Nat) (m:Iv):Prop where
 det:dF l n ≠ 0
 len:m.coefs.length = n
 coef:∀ k,k < n → m.coefs[k]? = F7 (kF l n k) (dF l n)
 res:F7 (rF l n) (dF l n) = some m.res
 tot:n3 l = some m.tot
 cnt:m.cnt = l.length
 free:m.free = l.length - n
theorem PT {l:List (List Int)} {m:Iv} (h:O2 l = (0,m)):V8 l = true ∧ 2 ≤ E8 l ∧ E8 l ≤ 4 ∧ Lg l (E8 l) m:=by
 unfold O2 at h
 split at h
 rotate_left
 ·cases h
 rename_i hc
 refine ⟨hc.1,hc.2.1,hc.2.2,?_⟩
 obtain ⟨hx,h2,h4⟩:=hc
 have hl:=fun r hr=>(((U7 l).1 hx).2 r hr).1
 split at h
 ·rename_i h1
  have:=congrArg Prod.fst h
  exact absurd this h1
 rename_i hs
 split at h
 ·rename_i h1
  have:=congrArg Prod.fst h
  exact absurd this h1
 rename_i hr
 split at h
 rotate_left
 ·cases h
 rename_i t ht
 have hm:=(congrArg Prod.snd h).symm
 simp only at hm
 simp only [ne_eq,Classical.not_not] at hs hr
 have hs0:=hs
 have hr0:=hr
 unfold V9 at hs
 split at hs
 ·rename_i h1;exact absurd hs h1
 split at hs
 ·cases hs
 split at hs
 ·rename_i h1;exact absurd hs h1
 split at hs
 ·cases hs
 rename_i q1 q2 q3 q4
 rw [S9] at q4
 have hsl:∃ L,b8 (fun k=>F7 (F5 (K0 (C9 (l.map B9) (E8 l)) (N6 l (E8 l)) k)) (F5 (C9 (l.map B9) (E8 l)))) (C9 (l.map B9) (E8 l)).length = some L ∧ (V9 (C9 (l.map B9) (E8 l)) (N6 l (E8 l))).2 = L:=by
  split at hs
  ·rename_i L hL
   refine ⟨L,hL,?_⟩
   unfold V9
   rw [if_neg q1,if_neg q2,if_neg q3,if_neg (by rw [S9];exact q4),hL]
  ·cases hs
 obtain ⟨L,hL,hL2⟩:=hsl
 rw [J5] at hL
 have hlen:=v7 hL
 have hrl:F7 (F5 (C9 (l.map F9) (E8 l + 1))) (F5 (C9 (l.map B9) (E8 l))) = some (AU (C9 (l.map F9) (E8 l + 1)) (C9 (l.map B9) (E8 l))).2:=by
  unfold AU at hr ⊢
  by_cases p1:H4 (C9 (l.map F9) (E8 l + 1)) ≠ 0
  ·rw [if_pos p1] at hr;exact absurd hr p1
  have p3:¬ F5 (C9 (l.map B9) (E8 l)) = 0:=by rw [S9];exact q4
  rw [if_neg p1,if_neg q1,if_neg p3] at hr ⊢
  split at hr
  ·rename_i p hp;rw [hp]
  ·cases hr
 rw [Et hl (by omega) q4,S9] at hrl
 subst hm
 rw [hL2]
 refine ⟨q4,hlen,fun k hk=>?_,hrl,ht,rfl,by rw [hlen]⟩
 rw [HQ hL k hk,Iw,S9]
theorem NX {l:List (List Int)} {n:Nat} (hx:V8 l = true) (hw:E8 l = n) (hn:2 ≤ n ∧ n ≤ 4) (hG:H4 (C9 (l.map B9) n) = 0) (hK:∀ k,k < n → H4 (K0 (C9 (l.map B9) n) (N6 l n) k) = 0) (hD:dF l n = 0):(O2 l).1 = 15:=by
 have hs:V9 (C9 (l.map B9) n) (N6 l n) = (15,[]):=by
  unfold V9
  rw [if_neg (by simp [hG]),if_neg (by simp [J5,HS]),J5,if_neg,if_pos (by rw [S9];exact hD)]
  simp only [ne_eq,Classical.not_not]
  have:∀ m,m ≤ n → U5 (fun k=>H4 (K0 (C9 (l.map B9) n) (N6 l n) k)) m = 0:=fun m hm=>by
   induction m with
   | zero=>rfl
   | succ m ih=>rw [U5,if_neg (by simp [ih (by omega)])];exact hK m (by omega)
  exact this n (Nat.le_refl _)
 unfold O2
 rw [hw,if_pos ⟨hx,hn.1,hn.2⟩,if_pos (by rw [hs];decide),hs]
theorem QT {l:List (List Int)} {n:Nat} (hx:V8 l = true) (hw:E8 l = n) (hn:2 ≤ n ∧ n ≤ 4) (hG:H4 (C9 (l.map B9) n) = 0) (hK:∀ k,k < n → H4 (K0 (C9 (l.map B9) n) (N6 l n) k) = 0)
  (hW:H4 (C9 (l.map F9) (n + 1)) = 0) (hD:dF l n ≠ 0) (hk:∀ k,k < n → ∃ p,F7 (kF l n k) (dF l n) = some p) (hr:∃ p,F7 (rF l n) (dF l n) = some p) (ht:∃ p,n3 l = some p):∃ m,O2 l = (0,m):=by
 have hl:=fun r hr=>(((U7 l).1 hx).2 r hr).1
 rw [hw] at hl
 have hc:∀ m,m ≤ n → ∃ L,b8 (fun k=>F7 (F5 (K0 (C9 (l.map B9) n) (N6 l n) k)) (F5 (C9 (l.map B9) n))) m = some L:=fun m hm=>by
  induction m with
  | zero=>exact ⟨_,rfl⟩
  | succ m ih =>
    obtain ⟨L,hL⟩:=ih (by omega)
    obtain ⟨p,hp⟩:=hk m (by omega)
    rw [← Iw, ← S9] at hp
    exact ⟨L ++ [p],by rw [b8,hL,hp]⟩
 obtain ⟨L,hL⟩:=hc n (Nat.le_refl _)
 have hs:V9 (C9 (l.map B9) n) (N6 l n) = (0,L):=by
  unfold V9
  rw [if_neg (by simp [hG]),if_neg (by simp [J5,HS]),J5,if_neg,if_neg (by rw [S9];exact hD),hL]
  simp only [ne_eq,Classical.not_not]
  have:∀ m,m ≤ n → U5 (fun k=>H4 (K0 (C9 (l.map B9) n) (N6 l n) k)) m = 0:=fun m hm=>by
   induction m with
   | zero=>rfl
   | succ m ih=>rw [U5,if_neg (by simp [ih (by omega)])];exact hK m (by omega)
  exact this n (Nat.le_refl _)
 obtain ⟨p,hp⟩:=hr
 have hra:AU (C9 (l.map F9) (n + 1)) (C9 (l.map B9) n) = (0,p):=by
  unfold AU
  rw [if_neg (by simp [hW]),if_neg (by simp [hG]),if_neg (by rw [S9];exact hD),Et hl (by omega) hD,S9,hp]
 obtain ⟨t,ht⟩:=ht
 unfold O2
 rw [hw,if_pos ⟨hx,hn.1,hn.2⟩,if_neg (by rw [hs];simp),if_neg (by rw [hra];simp),ht]
 exact ⟨_,rfl⟩
end Go.Proofs.YtbhegmcbpolemaaDoor
