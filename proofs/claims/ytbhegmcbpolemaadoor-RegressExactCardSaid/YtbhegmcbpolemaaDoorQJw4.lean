/- Chapter 19: rows on a plane, plain. -/
import Derived.Test.YtbhegmcbpolemaaDoorQJp7
set_option linter.unusedVariables false
set_option linter.unnecessarySimpa false
set_option linter.unusedSimpArgs false
namespace Go.Proofs.YtbhegmcbpolemaaDoor
open Go Go.Av
attribute [local irreducible] E2 B3 G0 F3 DQ H4 H7 St.le B7 E1
set_option maxRecDepth 100000
def P1 (w r:List Int) (k:Nat):Int:=B8 k fun j=>w.getD j 0 * (C0 r).getD j 0
def Y9 (w:List Int) (n:Nat) (r:List Int):List Int:=r.set 0 (P1 w r n)
theorem b9 {a b A B:Int} (h1:-A ≤ a ∧ a ≤ A) (h2:-B ≤ b ∧ b ≤ B):-(A * B) ≤ a * b ∧ a * b ≤ A * B:=by
 have e:((a * b).natAbs:Int) ≤ A * B:=by
  rw [Int.natAbs_mul,Int.natCast_mul]
  exact Int.mul_le_mul (by omega) (by omega) (by omega) (by omega)
 omega
theorem V5 {r:List Int} {B:Int} (h0:0 ≤ B) (h:∀ x ∈ r, -B ≤ x ∧ x ≤ B) (i:Nat):-B ≤ r.getD i 0 ∧ r.getD i 0 ≤ B:=by
 rw [List.getD_eq_getElem?_getD]
 cases e:r[i]? with
 | none=>simp;omega
 | some x=>exact h x (List.mem_of_getElem? e)
theorem IW {r:List Int} (h:∀ x ∈ r.drop 1, -9 ≤ x ∧ x ≤ 20):∀ x ∈ C0 r, -20 ≤ x ∧ x ≤ 20:=by
 intro x hx
 rcases List.mem_cons.1 hx with e | e
 ·subst e;decide
 ·have:=h x e;omega
theorem IX {w r:List Int} {k:Nat} (hk:1 ≤ k) (hw:∀ x ∈ w, -8 ≤ x ∧ x ≤ 8) (hr:∀ x ∈ r.drop 1, -9 ≤ x ∧ x ≤ 20):-(160 * (k:Int) - 152) ≤ P1 w r k ∧ P1 w r k ≤ 160 * (k:Int) - 152:=by
 induction k with
 | zero=>omega
 | succ k ih =>
   have h1:=V5 (by decide) hw k
   have h2:=V5 (by decide) (IW hr) k
   have h3:=b9 h1 h2
   unfold P1 at ih ⊢
   rw [B8]
   by_cases h0:k = 0
   ·subst h0
    have e:(C0 r).getD 0 0 = 1:=rfl
    rw [B8,e]
    omega
   ·have:=ih (by omega)
    omega
theorem HF (r:List Int) (v:Int):C0 (r.set 0 v) = C0 r:=by
 unfold C0
 cases r <;> rfl
theorem IY {l:List (List Int)} {n:Nat} (h:∀ r ∈ l,∀ x ∈ r, -488 ≤ x ∧ x ≤ 488) (hl:l.length ≤ 9):∀ q ∈ D0 l n,∀ x ∈ q, -2143296 ≤ x ∧ x ≤ 2143296:=by
 intro q hq x hx
 obtain ⟨i,_,rfl⟩:=List.mem_map.1 hq
 obtain ⟨j,_,rfl⟩:=List.mem_map.1 hx
 have:=b8 (l:=l) (f:=fun r=>r.getD i 0 * r.getD j 0) (B:=238144) fun r hr=>by
  have h1:=b9 (V5 (by decide) (h r hr) i) (V5 (by decide) (h r hr) j)
  omega
 omega
theorem Oq {R:List (List Int)} {w:List Int} {n:Nat} (hn:2 ≤ n ∧ n ≤ 4) (hwl:w.length = n) (hw:∀ x ∈ w, -8 ≤ x ∧ x ≤ 8) (hl:1 ≤ R.length ∧ R.length ≤ 9) (hr:∀ r ∈ R,r.length = n ∧ ∀ x ∈ r.drop 1, -9 ≤ x ∧ x ≤ 20) :
  (Y4 (R.map (Y9 w n))).1 = 15 ∨ ∃ t c f,Y4 (R.map (Y9 w n)) = (0,⟨w.map fun x=>(x,1),(0,1),t,c,f⟩):=by
 have hL:∀ r ∈ R.map (Y9 w n),r.length = n ∧ (∀ x ∈ r, -488 ≤ x ∧ x ≤ 488) ∧ (∀ x ∈ C0 r, -20 ≤ x ∧ x ≤ 20) ∧ r.getD 0 0 = B8 n fun j=>w.getD j 0 * (C0 r).getD j 0:=fun r h=>by
  obtain ⟨q,hq,rfl⟩:=List.mem_map.1 h
  obtain ⟨h1,h2⟩:=hr q hq
  have h3:=IX (by omega) hw h2 (k:=n)
  refine ⟨by unfold Y9;rw [List.length_set];exact h1,fun x hx=>?_,?_,?_⟩
  ·unfold Y9 at hx
   cases q with
   | nil=>cases hx
   | cons y t =>
     rcases List.mem_cons.1 hx with e | e
     ·subst e;omega
     ·have:=h2 x e;omega
  ·unfold Y9;rw [HF];exact IW h2
  ·unfold Y9
   rw [HF]
   cases q with
   | nil=>simp at h1;omega
   | cons y t=>rfl
 generalize hLL:R.map (Y9 w n) = L at *
 have hll:L.length = R.length:=by rw [← hLL,List.length_map]
 have hwid:E3 L = n:=by
  obtain ⟨r0,h0⟩:∃ r,L[0]? = some r:=⟨_,List.getElem?_eq_getElem (by omega)⟩
  have e:L.getD 0 [] = r0:=by rw [List.getD_eq_getElem?_getD,h0];rfl
  unfold E3
  rw [e];exact (hL r0 (List.mem_of_getElem? h0)).1
 have hx:U5 L = true:=(T6 L).2 ⟨by rw [hwid];omega,fun r h=>by
  obtain ⟨h1,h2,_⟩:=hL r h
  exact ⟨by rw [hwid];exact h1,fun x hx=>by have:=h2 x hx;omega⟩⟩
 have hpl:∀ r ∈ L,r.getD 0 0 = B8 n fun j=>w.getD j 0 * (C0 r).getD j 0:=fun r h=>(hL r h).2.2.2
 have hk:∀ k,k < n → kF L n k = w.getD k 0 * dF L n:=fun k h=>IL (fun j=>w.getD j 0) hpl h
 have hr0:rF L n = 0:=Oc (fun j=>w.getD j 0) hpl
 have hmd:∀ r ∈ L.map C0,∀ x ∈ r, -488 ≤ x ∧ x ≤ 488:=fun r h x hx=>by
  obtain ⟨q,hq,rfl⟩:=List.mem_map.1 h
  have:=(hL q hq).2.2.1 x hx
  omega
 have hmw:∀ r ∈ L.map G4,∀ x ∈ r, -488 ≤ x ∧ x ≤ 488:=fun r h x hx=>by
  obtain ⟨q,hq,rfl⟩:=List.mem_map.1 h
  unfold G4 at hx
  rcases List.mem_append.1 hx with e | e
  ·have:=(hL q hq).2.2.1 x e
   omega
  ·rw [List.mem_singleton.1 e]
   exact V5 (by decide) (hL q hq).2.1 0
 have gG:=IY (n:=n) hmd (by rw [List.length_map];omega)
 have gW:=IY (n:=n + 1) hmw (by rw [List.length_map];omega)
 have hpow:∀ m:Nat,1 ≤ m → m ≤ 5 → ((m:Int) * 2143296) ^ m ≤ 1329227995784915872903807060280344576:=fun m h1 h2=>by
  have:m = 1 ∨ m = 2 ∨ m = 3 ∨ m = 4 ∨ m = 5:=by omega
  rcases this with rfl | rfl | rfl | rfl | rfl <;> decide
 have cG:G8 (D0 (L.map C0) n) = 0:=Cw (J7 _ _) (by omega) w7 gG (by decide) (hpow n (by omega) (by omega))
 have cW:G8 (D0 (L.map G4) (n + 1)) = 0:=Cw (J7 _ _) (by omega) w7 gW (by decide) (hpow (n + 1) (by omega) (by omega))
 have hB:∀ x ∈ N0 L n, -2143296 ≤ x ∧ x ≤ 2143296:=fun x hx=>by
  obtain ⟨i,_,rfl⟩:=List.mem_map.1 hx
  have:=b8 (l:=L) (f:=fun r=>(C0 r).getD i 0 * r.getD 0 0) (B:=238144) fun r hr=>by
   have h1:=b9 (V5 (by decide) (hL r hr).2.2.1 i) (V5 (by decide) (hL r hr).2.1 0)
   omega
  omega
 have cK:∀ k,k < n → G8 (J4 (D0 (L.map C0) n) (N0 L n) k) = 0:=fun k h=>by
  refine Cw (n:=n) (by rw [Ax,J7]) (by omega) (Mq (J7 _ _) w7) (fun r hr x hx=>?_) (by decide) (hpow n (by omega) (by omega))
  obtain ⟨i,hi,rfl⟩:=List.mem_map.1 hr
  rcases List.mem_or_eq_of_mem_set hx with e | e
  ·rw [List.getD_eq_getElem?_getD] at e
   cases g:(D0 (L.map C0) n)[i]? with
   | none=>rw [g] at e;cases e
   | some q=>rw [g] at e;exact gG q (List.mem_of_getElem? g) x e
  ·rw [e];exact V5 (by decide) hB i
 by_cases hD:dF L n = 0
 ·exact .inl (Mr hx hwid hn cG cK hD)
 right
 have hred:∀ k,k < n → K5 (kF L n k) (dF L n) = some (w.getD k 0,1):=fun k h=>by
  rw [hk k h]
  have:=V5 (by decide) hw k
  refine (Gm hD _).2 ⟨?_,by simp⟩
  show 1 ≤ (1:Int) ∧ (1:Int) ≤ 1152921504606846976 ∧ -1152921504606846976 ≤ w.getD k 0 ∧ w.getD k 0 ≤ 1152921504606846976 ∧ Int.gcd (w.getD k 0) 1 = 1
  exact ⟨by decide,by decide,by omega,by omega,by simp⟩
 have hrr:K5 (rF L n) (dF L n) = some (0,1):=by rw [hr0];exact Km hD
 have htot:∃ p,Aw L = some p:=by
  have h1:=b8 (l:=L) (f:=fun r=>r.getD 0 0 * r.getD 0 0) (B:=238144) fun r hr=>by
   have:=b9 (V5 (by decide) (hL r hr).2.1 0) (V5 (by decide) (hL r hr).2.1 0)
   omega
  have h2:=b8 (l:=L) (f:=fun r=>r.getD 0 0) (B:=488) fun r hr=>V5 (by decide) (hL r hr).2.1 0
  have h3:=b9 (a:=(L.length:Int)) (A:=9) (B:=2143296) (b:=C1 L fun r=>r.getD 0 0 * r.getD 0 0) (by omega) (by omega)
  have h4:=b9 (A:=4392) (B:=4392) (a:=C1 L fun r=>r.getD 0 0) (b:=C1 L fun r=>r.getD 0 0) (by omega) (by omega)
  unfold Aw
  exact Ja (by omega) (by unfold mF;omega) (by unfold mF;omega)
 obtain ⟨m,hm⟩:=Pq hx hwid hn cG cK cW hD (fun k h=>⟨_,hred k h⟩) ⟨_,hrr⟩ htot
 obtain ⟨_,_,_,hf⟩:=Of hm
 rw [hwid] at hf
 obtain ⟨cs,rs,tt,cc,ff⟩:=m
 have e1:rs = (0,1):=by have:=hf.res;rw [hrr] at this;exact (Option.some.inj this).symm
 have e2:cs = w.map fun x=>(x,1):=by
  have hcl:cs.length = n:=hf.len
  refine List.ext_getElem? fun k=>?_
  by_cases h:k < n
  ·have:=hf.coef k h
   dsimp only at this
   rw [this,hred k h,List.getElem?_map,List.getElem?_eq_getElem (by omega),List.getD_eq_getElem?_getD,List.getElem?_eq_getElem (by omega)]
   rfl
  ·rw [List.getElem?_eq_none (by omega),List.getElem?_eq_none (by rw [List.length_map];omega)]
 subst e1 e2
 exact ⟨tt,cc,ff,hm⟩
end Go.Proofs.YtbhegmcbpolemaaDoor
