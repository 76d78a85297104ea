/- Least squares: when there is a model. Plain. -/
import Derived.Test.YtbhegmcbpolemaaDoorQJp6
set_option linter.unusedVariables false
set_option linter.unnecessarySimpa false
set_option linter.unusedSimpArgs false
namespace Go.Proofs.YtbhegmcbpolemaaDoor
open Go Go.Av
attribute [local irreducible] E2 B3 G0 F3 DQ H4 H7 St.le B7 E1
set_option maxRecDepth 100000
theorem Ja {num den:Int} (h:den ≠ 0) (h1:-mF ≤ num ∧ num ≤ mF) (h2:-mF ≤ den ∧ den ≤ mF):∃ p,K5 num den = some p:=by
 rw [FE h]
 have a1:num.natAbs / Nat.gcd den.natAbs num.natAbs ≤ num.natAbs:=Nat.div_le_self ..
 have a2:den.natAbs / Nat.gcd den.natAbs num.natAbs ≤ den.natAbs:=Nat.div_le_self ..
 unfold mF at h1 h2
 rw [if_pos ⟨by omega,by omega⟩]
 exact ⟨_,rfl⟩
theorem Od {r:List Int} {B:Int} (h:∀ x ∈ r, -B ≤ x ∧ x ≤ B):M0 r ≤ r.length * B:=by
 induction r with
 | nil=>simp [M0]
 | cons x r ih =>
   have h1:=ih fun y hy=>h y (by simp [hy])
   have h2:=h x (by simp)
   rw [M0,List.length_cons,Int.natCast_succ,Int.add_mul,Int.one_mul];omega
theorem Oe {a:List (List Int)} {B:Int} {n:Nat} (hr:∀ r ∈ a,r.length = n) (hB:∀ r ∈ a,∀ x ∈ r, -B ≤ x ∧ x ≤ B) (h1:1 ≤ n * B):N5 a ≤ (n * B) ^ a.length:=by
 induction a with
 | nil=>simp [N5]
 | cons r s ih =>
   have h2:=ih (fun x hx=>hr x (by simp [hx])) fun x hx=>hB x (by simp [hx])
   have h3:=Od (hB r (by simp))
   rw [hr r (by simp)] at h3
   rw [N5,List.length_cons,Int.pow_succ,Int.mul_comm]
   have h4:1 ≤ N5 s:=Gp s
   exact Int.mul_le_mul h2 (by unfold Aq;omega) (by unfold Aq;omega) (by omega)
theorem T5 {α:Type} {l:List α} {p:α → Bool} (h:∀ x ∈ l,p x = false):l.any p = false:=by
 cases e:l.any p with
 | false=>rfl
 | true =>
   obtain ⟨x,hx,hp⟩:=List.any_eq_true.1 e
   rw [h x hx] at hp;cases hp
theorem Cw {a:List (List Int)} {B:Int} {n:Nat} (ha:a.length = n) (hn:1 ≤ n ∧ n ≤ 5) (hr:∀ r ∈ a,r.length = n) (hB:∀ r ∈ a,∀ x ∈ r, -B ≤ x ∧ x ≤ B) (h0:1 ≤ B ∧ B ≤ 2147483648) (hp:((n:Int) * B) ^ n ≤ 1329227995784915872903807060280344576):G8 a = 0:=by
 have h1:1 ≤ (n:Int) * B:=by
  have:=Int.mul_le_mul (show (1:Int) ≤ n by omega) h0.1 (by omega) (by omega)
  omega
 have h2:=Oe hr hB h1
 rw [ha] at h2
 unfold G8
 rw [ha,if_neg (by omega),if_neg (by omega),if_neg,if_neg,if_neg (by omega)]
 ·rw [T5 fun r h=>T5 fun x hx=>by have:=hB r h x hx;simp;omega];simp
 ·rw [T5 fun r h=>by simp [hr r h]];simp
theorem AM {l:List (List Int)} {r:List Int} (h:l[0]? = some r):E3 l = r.length:=by
 unfold E3;rw [List.getD_eq_getElem?_getD,h];rfl
theorem T6 (l:List (List Int)):U5 l = true ↔ (1 ≤ l.length ∧ l.length ≤ 200 ∧ 1 ≤ E3 l ∧ E3 l ≤ 5) ∧ ∀ r ∈ l,r.length = E3 l ∧ ∀ x ∈ r, -1000000 ≤ x ∧ x ≤ 1000000:=by
 unfold U5
 rw [Bool.and_eq_true,decide_eq_true_iff,List.all_eq_true]
 refine and_congr_right fun _=>forall_congr' fun r=>forall_congr' fun _=>?_
 rw [Bool.and_eq_true,decide_eq_true_iff,List.all_eq_true]
 refine and_congr_right fun _=>forall_congr' fun x=>forall_congr' fun _=>?_
 rw [decide_eq_true_iff]
structure Pp (l:List (List Int)) (n:Nat) (m:II):Prop where
 det:dF l n ≠ 0
 len:m.coefs.length = n
 coef:∀ k,k < n → m.coefs[k]? = K5 (kF l n k) (dF l n)
 res:K5 (rF l n) (dF l n) = some m.res
 tot:Aw l = some m.tot
 cnt:m.cnt = l.length
 free:m.free = l.length - n
theorem Of {l:List (List Int)} {m:II} (h:Y4 l = (0,m)):U5 l = true ∧ 2 ≤ E3 l ∧ E3 l ≤ 4 ∧ Pp l (E3 l) m:=by
 unfold Y4 at h
 split at h
 rotate_left
 ·cases h
 rename_i hc
 refine ⟨hc.1,hc.2.1,hc.2.2,?_⟩
 obtain ⟨hx,h2,h4⟩:=hc
 have hl:=fun r hr=>(((T6 l).1 hx).2 r hr).1
 split at h
 ·rename_i h1
  have:=congrArg Prod.fst h
  exact absurd this h1
 rename_i hs
 split at h
 ·rename_i h1
  have:=congrArg Prod.fst h
  exact absurd this h1
 rename_i hr
 split at h
 rotate_left
 ·cases h
 rename_i t ht
 have hm:=(congrArg Prod.snd h).symm
 simp only at hm
 simp only [ne_eq,Classical.not_not] at hs hr
 have hs0:=hs
 have hr0:=hr
 unfold U6 at hs
 split at hs
 ·rename_i h1;exact absurd hs h1
 split at hs
 ·cases hs
 split at hs
 ·rename_i h1;exact absurd hs h1
 split at hs
 ·cases hs
 rename_i q1 q2 q3 q4
 rw [R9] at q4
 have hsl:∃ L,Y3 (fun k=>K5 (F1 (J4 (D0 (l.map C0) (E3 l)) (N0 l (E3 l)) k)) (F1 (D0 (l.map C0) (E3 l)))) (D0 (l.map C0) (E3 l)).length = some L ∧ (U6 (D0 (l.map C0) (E3 l)) (N0 l (E3 l))).2 = L:=by
  split at hs
  ·rename_i L hL
   refine ⟨L,hL,?_⟩
   unfold U6
   rw [if_neg q1,if_neg q2,if_neg q3,if_neg (by rw [R9];exact q4),hL]
  ·cases hs
 obtain ⟨L,hL,hL2⟩:=hsl
 rw [J7] at hL
 have hlen:=r9 hL
 have hrl:K5 (F1 (D0 (l.map G4) (E3 l + 1))) (F1 (D0 (l.map C0) (E3 l))) = some (AB (D0 (l.map G4) (E3 l + 1)) (D0 (l.map C0) (E3 l))).2:=by
  unfold AB at hr ⊢
  by_cases p1:G8 (D0 (l.map G4) (E3 l + 1)) ≠ 0
  ·rw [if_pos p1] at hr;exact absurd hr p1
  have p3:¬ F1 (D0 (l.map C0) (E3 l)) = 0:=by rw [R9];exact q4
  rw [if_neg p1,if_neg q1,if_neg p3] at hr ⊢
  split at hr
  ·rename_i p hp;rw [hp]
  ·cases hr
 rw [IK hl (by omega) q4,R9] at hrl
 subst hm
 rw [hL2]
 refine ⟨q4,hlen,fun k hk=>?_,hrl,ht,rfl,by rw [hlen]⟩
 rw [Gr hL k hk,IJ,R9]
theorem Mr {l:List (List Int)} {n:Nat} (hx:U5 l = true) (hw:E3 l = n) (hn:2 ≤ n ∧ n ≤ 4) (hG:G8 (D0 (l.map C0) n) = 0) (hK:∀ k,k < n → G8 (J4 (D0 (l.map C0) n) (N0 l n) k) = 0) (hD:dF l n = 0):(Y4 l).1 = 15:=by
 have hs:U6 (D0 (l.map C0) n) (N0 l n) = (15,[]):=by
  unfold U6
  rw [if_neg (by simp [hG]),if_neg (by simp [J7,Gv]),J7,if_neg,if_pos (by rw [R9];exact hD)]
  simp only [ne_eq,Classical.not_not]
  have:∀ m,m ≤ n → T4 (fun k=>G8 (J4 (D0 (l.map C0) n) (N0 l n) k)) m = 0:=fun m hm=>by
   induction m with
   | zero=>rfl
   | succ m ih=>rw [T4,if_neg (by simp [ih (by omega)])];exact hK m (by omega)
  exact this n (Nat.le_refl _)
 unfold Y4
 rw [hw,if_pos ⟨hx,hn.1,hn.2⟩,if_pos (by rw [hs];decide),hs]
theorem Pq {l:List (List Int)} {n:Nat} (hx:U5 l = true) (hw:E3 l = n) (hn:2 ≤ n ∧ n ≤ 4) (hG:G8 (D0 (l.map C0) n) = 0) (hK:∀ k,k < n → G8 (J4 (D0 (l.map C0) n) (N0 l n) k) = 0)
  (hW:G8 (D0 (l.map G4) (n + 1)) = 0) (hD:dF l n ≠ 0) (hk:∀ k,k < n → ∃ p,K5 (kF l n k) (dF l n) = some p) (hr:∃ p,K5 (rF l n) (dF l n) = some p) (ht:∃ p,Aw l = some p):∃ m,Y4 l = (0,m):=by
 have hl:=fun r hr=>(((T6 l).1 hx).2 r hr).1
 rw [hw] at hl
 have hc:∀ m,m ≤ n → ∃ L,Y3 (fun k=>K5 (F1 (J4 (D0 (l.map C0) n) (N0 l n) k)) (F1 (D0 (l.map C0) n))) m = some L:=fun m hm=>by
  induction m with
  | zero=>exact ⟨_,rfl⟩
  | succ m ih =>
    obtain ⟨L,hL⟩:=ih (by omega)
    obtain ⟨p,hp⟩:=hk m (by omega)
    rw [← IJ, ← R9] at hp
    exact ⟨L ++ [p],by rw [Y3,hL,hp]⟩
 obtain ⟨L,hL⟩:=hc n (Nat.le_refl _)
 have hs:U6 (D0 (l.map C0) n) (N0 l n) = (0,L):=by
  unfold U6
  rw [if_neg (by simp [hG]),if_neg (by simp [J7,Gv]),J7,if_neg,if_neg (by rw [R9];exact hD),hL]
  simp only [ne_eq,Classical.not_not]
  have:∀ m,m ≤ n → T4 (fun k=>G8 (J4 (D0 (l.map C0) n) (N0 l n) k)) m = 0:=fun m hm=>by
   induction m with
   | zero=>rfl
   | succ m ih=>rw [T4,if_neg (by simp [ih (by omega)])];exact hK m (by omega)
  exact this n (Nat.le_refl _)
 obtain ⟨p,hp⟩:=hr
 have hra:AB (D0 (l.map G4) (n + 1)) (D0 (l.map C0) n) = (0,p):=by
  unfold AB
  rw [if_neg (by simp [hW]),if_neg (by simp [hG]),if_neg (by rw [R9];exact hD),IK hl (by omega) hD,R9,hp]
 obtain ⟨t,ht⟩:=ht
 unfold Y4
 rw [hw,if_pos ⟨hx,hn.1,hn.2⟩,if_neg (by rw [hs];simp),if_neg (by rw [hra];simp),ht]
 exact ⟨_,rfl⟩
end Go.Proofs.YtbhegmcbpolemaaDoor
