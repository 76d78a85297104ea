/- What is left of rows adds up to 0: plain. -/
import Derived.Test.YtbhegmcbpolemaaDoorSJx0
set_option linter.unusedVariables false
set_option linter.unnecessarySimpa false
set_option linter.unusedSimpArgs false
namespace Go.Proofs.YtbhegmcbpolemaaDoor
open Go Go.Av
attribute [local irreducible] E3 B5 F2 F0 DQ F5 G8 St.le B6 D3
set_option maxRecDepth 100000
def BW (cs:List (Int × Int)) (r:List Int):Nat → Nat → Int × Int → (Int × Int) × Bool
 | 0,_,o=>(o,true)
 | m + 1,k,o=>if (AL (cs.getD k (0,0)) (r.getD k 0,1)).1 = 0 ∧ (Al o (AL (cs.getD k (0,0)) (r.getD k 0,1)).2).1 = 0 then BW cs r m (k + 1) (Al o (AL (cs.getD k (0,0)) (r.getD k 0,1)).2).2 else (o,false)
def BX (cs:List (Int × Int)) (r:List Int):(Int × Int) × Bool :=
 if (Am (cs.getD 0 (0,0)) (r.getD 0 0,1)).1 = 0 then BW cs r (cs.length - 1) 1 (Am (cs.getD 0 (0,0)) (r.getD 0 0,1)).2 else ((Am (cs.getD 0 (0,0)) (r.getD 0 0,1)).2,false)
def FI (p q:Int × Int):Bool:=decide (okF p ∧ okF q ∧ p.1 * q.2 - q.1 * p.2 < 0)
theorem Hh {l:List (List Int)} {n:Nat} {m:CQ} (hf:w9 l n m) {k:Nat} (hk:k < n):W2 (m.coefs.getD k (0,0)) (kF l n k) (dF l n):=by
 have h:=hf.coef k hk
 rw [u3 hf.det, ← h,List.getD_eq_getElem?_getD,List.getElem?_eq_getElem (by rw [hf.len];exact hk)];rfl
theorem NZ {l:List (List Int)} {n:Nat} {m:CQ} (hf:w9 l n m) {r:List Int} (hr:∀ x ∈ r, -1000000 ≤ x ∧ x ≤ 1000000) (j:Nat):∀ (k:Nat) (o:Int × Int),1 ≤ k → k + j = n → W2 o ((B7 k fun i=>kF l n i * (B8 r).getD i 0) - dF l n * r.getD 0 0) (dF l n) → (BW m.coefs r j k o).2 = true → W2 (BW m.coefs r j k o).1 (eF l n r) (dF l n):=by
 induction j with
 | zero =>
   intro k o h1 h2 h3 h4
   have:k = n:=by omega
   subst this
   exact h3
 | succ j ih =>
   intro k o h1 h2 h3 h4
   rw [BW] at h4 ⊢
   split at h4
   rotate_left
   ·cases h4
   rename_i hc
   rw [if_pos hc]
   have hb:=KC (by decide) hr k
   have e1:=FH (Hh hf (show k < n by omega)) (FF (a:=r.getD k 0) (by unfold mF;omega)) hc.1
   rw [Int.mul_one] at e1
   have e2:=FG h3 e1 hc.2
   refine ih (k + 1) _ (by omega) (by omega) ?_ h4
   have e3:(B8 r).getD k 0 = r.getD k 0:=by
    obtain ⟨q,rfl⟩:∃ q,k = q + 1:=⟨k - 1,by omega⟩
    unfold B8
    rw [List.getD_cons_succ,List.getD_eq_getElem?_getD,List.getElem?_drop,Nat.add_comm 1 q, ← List.getD_eq_getElem?_getD]
   rw [B7,e3]
   rw [show (B7 k fun i=>kF l n i * (B8 r).getD i 0) + kF l n k * r.getD k 0 - dF l n * r.getD 0 0 = (B7 k fun i=>kF l n i * (B8 r).getD i 0) - dF l n * r.getD 0 0 + kF l n k * r.getD k 0 by omega]
   exact e2
theorem Na {l:List (List Int)} {n:Nat} {m:CQ} (hn:1 ≤ n) (hf:w9 l n m) {r:List Int} (hr:∀ x ∈ r, -1000000 ≤ x ∧ x ≤ 1000000) (h:(BX m.coefs r).2 = true):W2 (BX m.coefs r).1 (eF l n r) (dF l n):=by
 unfold BX at h ⊢
 split at h
 rotate_left
 ·cases h
 rename_i hc
 rw [if_pos hc]
 have hb:=KC (by decide) hr 0
 have h0:W2 (r.getD 0 0,1) (r.getD 0 0 * dF l n) (dF l n):=⟨Co (by unfold mF;omega),(Int.mul_one _).symm⟩
 have e1:=Pe (Hh hf (show 0 < n by omega)) h0 hc
 refine NZ hf hr _ 1 _ (by omega) (by rw [hf.len];omega) ?_ h
 have e2:(B7 1 fun i=>kF l n i * (B8 r).getD i 0) - dF l n * r.getD 0 0 = kF l n 0 - r.getD 0 0 * dF l n:=by
  rw [B7,B7,show (B8 r).getD 0 0 = 1 from rfl,Int.mul_comm (dF l n)];omega
 rw [e2]
 exact e1
def Df (l:List (List Int)) (n k i:Nat):Int:=if k < n then C0 (l.take i) (fun r=>eF l n r * (B8 r).getD k 0) else C0 (l.take i) fun r=>eF l n r * eF l n r
def Dg (l:List (List Int)) (n k:Nat):Int:=if k < n then dF l n else dF l n * dF l n
def Ab (r:List Int) (n k:Nat) (d:Int × Int):Int × Int:=if k = n then d else if 0 < k then (r.getD k 0,1) else (1,1)
def CS (l:List (List Int)) (n i j:Nat) (S:List (Int × Int)):Prop:=S.length = n + 1 ∧ ∀ k,k ≤ n → W2 (S.getD k (0,0)) (Df l n k (if k < j then i + 1 else i)) (Dg l n k)
theorem Lj {l:List (List Int)} {n i:Nat} {S:List (Int × Int)} (h:CS l n i (n + 1) S):CS l n (i + 1) 0 S:=by
 refine ⟨h.1,fun k hk=>?_⟩
 have:=h.2 k hk
 rw [if_pos (by omega)] at this
 rw [if_neg (by omega)];exact this
theorem Qi (l:List (List Int)) (n:Nat):CS l n 0 0 (List.replicate (n + 1) (0,1)):=by
 refine ⟨List.length_replicate,fun k hk=>?_⟩
 have e:(List.replicate (n + 1) ((0,1):Int × Int)).getD k (0,0) = (0,1):=by rw [List.getD_eq_getElem?_getD,List.getElem?_replicate,if_pos (by omega)];rfl
 rw [e]
 refine ⟨Co (by decide),?_⟩
 have:Df l n k (if k < 0 then 0 + 1 else 0) = 0:=by unfold Df;rw [if_neg (Nat.not_lt_zero _),List.take_zero];split <;> rfl
 rw [this];simp
theorem Lk {l:List (List Int)} {n i j:Nat} {S:List (Int × Int)} {r:List Int} {d:Int × Int} (hn:1 ≤ n) (hD:dF l n ≠ 0) (hi:l[i]? = some r) (hr:∀ x ∈ r, -1000000 ≤ x ∧ x ≤ 1000000) (hd:W2 d (eF l n r) (dF l n)) (hj:j ≤ n) (h:CS l n i j S)
  (h1:(AL d (Ab r n j d)).1 = 0) (h2:(Al (S.getD j (0,0)) (AL d (Ab r n j d)).2).1 = 0):CS l n i (j + 1) (S.set j (Al (S.getD j (0,0)) (AL d (Ab r n j d)).2).2):=by
 obtain ⟨hl,h⟩:=h
 refine ⟨by rw [List.length_set];exact hl,fun k hk=>?_⟩
 by_cases e:k = j
 ·subst e
  have hk0:=h k hk
  rw [if_neg (by omega)] at hk0
  rw [List.getD_eq_getElem?_getD,List.getElem?_set_self (by omega),if_pos (by omega)]
  show W2 (Al (S.getD k (0,0)) (AL d (Ab r n k d)).2).2 _ _
  by_cases hkn:k = n
  ·have et:Ab r n k d = d:=by unfold Ab;rw [if_pos hkn]
   rw [et] at h1 h2 ⊢
   have e1:=FH hd hd h1
   have ed:Dg l n k = dF l n * dF l n:=by unfold Dg;rw [if_neg (by omega)]
   rw [ed] at hk0 ⊢
   have e2:=FG hk0 e1 h2
   unfold Df at e2 ⊢
   rw [if_neg (by omega)] at e2 ⊢
   rw [R1 hi];exact e2
  ·have ed:Dg l n k = dF l n:=by unfold Dg;rw [if_pos (by omega)]
   rw [ed] at hk0 ⊢
   have et:W2 (Ab r n k d) ((B8 r).getD k 0) 1:=by
    unfold Ab
    rw [if_neg hkn]
    by_cases h0:0 < k
    ·rw [if_pos h0]
     have e3:(B8 r).getD k 0 = r.getD k 0:=by
      obtain ⟨q,rfl⟩:∃ q,k = q + 1:=⟨k - 1,by omega⟩
      unfold B8
      rw [List.getD_cons_succ,List.getD_eq_getElem?_getD,List.getElem?_drop,Nat.add_comm 1 q, ← List.getD_eq_getElem?_getD]
     rw [e3]
     have hb:=KC (by decide) hr k
     exact FF (by unfold mF;omega)
    ·have:k = 0:=by omega
     subst this
     rw [if_neg h0]
     exact FF (a:=1) (by decide)
   have e1:=FH hd et h1
   rw [Int.mul_one] at e1
   have e2:=FG hk0 e1 h2
   unfold Df at e2 ⊢
   rw [if_pos (by omega)] at e2 ⊢
   rw [R1 hi];exact e2
 ·have hk0:=h k hk
  rw [List.getD_eq_getElem?_getD,List.getElem?_set_ne (Ne.symm e), ← List.getD_eq_getElem?_getD]
  by_cases hkj:k < j
  ·rw [if_pos hkj] at hk0;rw [if_pos (by omega)];exact hk0
  ·rw [if_neg hkj] at hk0;rw [if_neg (by omega)];exact hk0
theorem Nb {l:List (List Int)} {n:Nat} {m:CQ} {S:List (Int × Int)} (hf:w9 l n m) (h:CS l n l.length 0 S):(∀ k,k < n → (S.getD k (0,0)).1 = 0) ∧ S.getD n (0,0) = m.res:=by
 obtain ⟨_,h⟩:=h
 constructor
 ·intro k hk
  obtain ⟨h1,h2⟩:=h k (by omega)
  unfold Df Dg at h2
  rw [if_neg (Nat.not_lt_zero _),if_pos hk,if_pos hk,List.take_length,GB l hk,Int.zero_mul] at h2
  exact (Int.mul_eq_zero.1 h2).resolve_right hf.det
 ·obtain ⟨h1,h2⟩:=h n (Nat.le_refl _)
  unfold Df Dg at h2
  rw [if_neg (Nat.not_lt_zero _),if_neg (Nat.lt_irrefl _),if_neg (Nat.lt_irrefl _),List.take_length,Iz] at h2
  have h3:W2 (S.getD n (0,0)) (rF l n) (dF l n):=⟨h1,by
   have:((S.getD n (0,0)).1 * dF l n) * dF l n = (rF l n * (S.getD n (0,0)).2) * dF l n:=by grind
   exact Int.eq_of_mul_eq_mul_right hf.det this⟩
  rw [u3 hf.det,hf.res] at h3
  exact (Option.some.inj h3).symm
theorem Qj {d:Int} (h:d ≠ 0):0 < d * d:=by
 rcases Int.lt_or_gt_of_ne h with h | h
 ·exact Int.mul_pos_of_neg_of_neg h h
 ·exact Int.mul_pos h h
theorem Nc {l:List (List Int)} {n:Nat} {m:CQ} (hn:1 ≤ n) (hl:1 ≤ l.length) (hf:w9 l n m):FI m.res (0,1) = false ∧ FI m.tot m.res = false:=by
 obtain ⟨o1,r1⟩:=(u3 hf.det).2 hf.res
 have hN:(l.length:Int) ≠ 0:=by omega
 have ht:=hf.tot
 unfold CP at ht
 obtain ⟨o2,t1⟩:=(u3 hN).2 ht
 have hs:=Pc l n
 have htl:=Qh l hn
 have hD2:=Qj hf.det
 have p1:1 ≤ m.res.2:=o1.1
 have p2:1 ≤ m.tot.2:=o2.1
 constructor
 ·unfold FI
  refine decide_eq_false fun ⟨_,_,h⟩=>?_
  dsimp only at h
  have h3:m.res.1 < 0:=by omega
  have h4:m.res.1 * (dF l n * dF l n) < 0:=Int.mul_neg_of_neg_of_pos h3 hD2
  have h5:m.res.1 * (dF l n * dF l n) = (dF l n * rF l n) * m.res.2:=by grind
  have h6:0 ≤ (dF l n * rF l n) * m.res.2:=Int.mul_nonneg hs (by omega)
  omega
 ·unfold FI
  refine decide_eq_false fun ⟨_,_,h⟩=>?_
  have eb:bF l 0 = C0 l fun r=>r.getD 0 0:=K6 fun r _=>by rw [show (B8 r).getD 0 0 = 1 from rfl,Int.one_mul]
  have ey:yF l = C0 l fun r=>r.getD 0 0 * r.getD 0 0:=rfl
  rw [← eb, ← ey] at t1
  have hNp:0 < (l.length:Int):=by omega
  generalize (l.length:Int) = N at *
  have h7:0 ≤ dF l n * ((N * yF l - bF l 0 * bF l 0) * dF l n - N * rF l n):=by
   rcases Int.lt_or_le (dF l n * ((N * yF l - bF l 0 * bF l 0) * dF l n - N * rF l n)) 0 with h8 | h8
   ·have:=Int.mul_neg_of_pos_of_neg hNp h8;omega
   ·exact h8
  have h8:(m.tot.1 * m.res.2 - m.res.1 * m.tot.2) * (N * (dF l n * dF l n)) < 0:=Int.mul_neg_of_neg_of_pos h (Int.mul_pos hNp hD2)
  have h9:(m.tot.1 * m.res.2 - m.res.1 * m.tot.2) * (N * (dF l n * dF l n)) = (m.tot.2 * m.res.2) * (dF l n * ((N * yF l - bF l 0 * bF l 0) * dF l n - N * rF l n)):=by
   have a1:m.tot.1 * m.res.2 * (N * (dF l n * dF l n)) = (m.tot.1 * N) * (m.res.2 * (dF l n * dF l n)):=by grind
   have a2:m.res.1 * m.tot.2 * (N * (dF l n * dF l n)) = (m.res.1 * dF l n) * (m.tot.2 * N * dF l n):=by grind
   rw [Int.sub_mul,a1,a2,t1,r1]
   grind
  have h10:0 ≤ (m.tot.2 * m.res.2) * (dF l n * ((N * yF l - bF l 0 * bF l 0) * dF l n - N * rF l n)):=Int.mul_nonneg (Int.mul_nonneg (by omega) (by omega)) h7
  omega
end Go.Proofs.YtbhegmcbpolemaaDoor
