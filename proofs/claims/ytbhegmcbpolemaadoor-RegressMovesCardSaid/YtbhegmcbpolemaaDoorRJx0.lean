/- Fractions added and multiplied, and what becomes of a model: plain. -/
import Derived.Test.YtbhegmcbpolemaaDoorRJw4
set_option linter.unusedVariables false
set_option linter.unnecessarySimpa false
set_option linter.unusedSimpArgs false
namespace Go.Proofs.YtbhegmcbpolemaaDoor
open Go Go.Av
attribute [local irreducible] E2 B3 F6 E9 DQ G2 H3 St.le B4 D7
set_option maxRecDepth 100000
def DT:Option (Int × Int) → Int × (Int × Int)
 | some r=>(0,r)
 | none=>(14,(0,0))
def HT (p q:Int × Int):Int × (Int × Int):=if okF p ∧ okF q then DT (F7 (p.1 * q.2 + q.1 * p.2) (p.2 * q.2)) else (11,(0,0))
def HU (p q:Int × Int):Int × (Int × Int):=if okF p ∧ okF q then DT (F7 (p.1 * q.1) (p.2 * q.2)) else (11,(0,0))
def Ri (p:Int × Int) (x d:Int):Prop:=okF p ∧ p.1 * d = x * p.2
theorem Ix {a:Int} (h:-mF ≤ a ∧ a ≤ mF):okF (a,1):=⟨show (1:Int) ≤ 1 by decide,show (1:Int) ≤ mF by decide,h.1,h.2,by simp⟩
theorem Iy {p:Int × Int} {x d:Int} (hd:d ≠ 0):Ri p x d ↔ F7 x d = some p:=(DO hd p).symm
theorem Lh {p:Int × Int} (h:okF p):p.2 ≠ 0:=by have:=h.1;omega
theorem NY {p c:Int × Int} {a x d:Int} (hd:d ≠ 0) (ha:-mF ≤ a ∧ a ≤ mF) (hc:F7 x d = some c) (hp:F7 (x + a * d) d = some p):HT c (a,1) = (0,p):=by
 obtain ⟨h1,h2⟩:=(Iy hd).2 hc
 unfold HT
 rw [if_pos ⟨h1,Ix ha⟩]
 have e:F7 (c.1 * (a,(1:Int)).2 + (a,(1:Int)).1 * c.2) (c.2 * (a,(1:Int)).2) = F7 (x + a * d) d:=Iq (by have:=Lh h1;dsimp only;omega) hd (by dsimp only;grind)
 rw [e,hp];rfl
theorem HV {p c:Int × Int} {a x d:Int} (hd:d ≠ 0) (ha:-mF ≤ a ∧ a ≤ mF) (hc:F7 x d = some c) (hp:F7 (a * x) d = some p):HU c (a,1) = (0,p):=by
 obtain ⟨h1,h2⟩:=(Iy hd).2 hc
 unfold HU
 rw [if_pos ⟨h1,Ix ha⟩]
 have e:F7 (c.1 * (a,(1:Int)).1) (c.2 * (a,(1:Int)).2) = F7 (a * x) d:=Iq (by have:=Lh h1;dsimp only;omega) hd (by dsimp only;grind)
 rw [e,hp];rfl
def I7 (f:Int → Int) (r:List Int):List Int:=f (r.getD 0 0) :: r.drop 1
theorem KC (f:Int → Int) (l:List (List Int)) (i j:Nat):gF (l.map (I7 f)) i j = gF l i j:=by unfold gF;rw [R7];rfl
theorem BT (f:Int → Int) (l:List (List Int)) (n:Nat):dF (l.map (I7 f)) n = dF l n:=I3 fun i j _ _=>KC f l i j
theorem OT (f:Int → Int) (l:List (List Int)) (i:Nat):bF (l.map (I7 f)) i = C0 l fun r=>(B9 r).getD i 0 * f (r.getD 0 0):=by unfold bF;rw [R7];rfl
theorem OU (f:Int → Int) (l:List (List Int)):yF (l.map (I7 f)) = C0 l fun r=>f (r.getD 0 0) * f (r.getD 0 0):=by unfold yF;rw [R7];rfl
theorem HW {l m:List (List Int)} {n k:Nat} {b:Nat → Int} (hg:∀ i j,gF m i j = gF l i j) (hb:∀ i,bF m i = b i):kF m n k = C3 n (D6 (gF l) k b):=by
 unfold kF
 refine I3 fun i j _ _=>?_
 simp only [D6]
 split
 ·exact hb i
 ·exact hg i j
theorem Li (a:Int) (l:List (List Int)) (i:Nat):bF (l.map (I7 fun y=>y + a)) i = 1 * bF l i + a * gF l i 0:=by
 rw [OT,Int.one_mul]
 have:∀ r ∈ l,(B9 r).getD i 0 * (r.getD 0 0 + a) = (B9 r).getD i 0 * r.getD 0 0 + a * ((B9 r).getD i 0 * (B9 r).getD 0 0):=fun r _=>by
  rw [show (B9 r).getD 0 0 = 1 from rfl];grind
 rw [L7 this,j9,k0];rfl
theorem Lj (a:Int) (l:List (List Int)) {n k:Nat} (hk:k < n):kF (l.map (I7 fun y=>y + a)) n k = kF l n k + (if k = 0 then a else 0) * dF l n:=by
 rw [HW (KC _ l) (Li a l),X9 n (gF l) k hk]
 by_cases h:k = 0
 ·subst h
  rw [if_pos rfl,FZ]
  show 1 * kF l n 0 + a * dF l n = _
  omega
 ·have h2:C3 n (D6 (gF l) k fun i=>gF l i 0) = 0:=DN n _ k 0 hk (by omega) h fun i=>by
   show (if k = k then gF l i 0 else gF l i k) = if 0 = k then gF l i 0 else gF l i 0
   rw [if_pos rfl,if_neg (Ne.symm h)]
  rw [if_neg h,h2]
  show 1 * kF l n k + a * 0 = _
  omega
theorem QU (a:Int) (l:List (List Int)):yF (l.map (I7 fun y=>y + a)) = yF l + (2 * a * bF l 0 + a * a * gF l 0 0):=by
 rw [OU]
 have:∀ r ∈ l,(r.getD 0 0 + a) * (r.getD 0 0 + a) = r.getD 0 0 * r.getD 0 0 + (2 * a * ((B9 r).getD 0 0 * r.getD 0 0) + a * a * ((B9 r).getD 0 0 * (B9 r).getD 0 0)):=fun r _=>by
  rw [show (B9 r).getD 0 0 = 1 from rfl];grind
 rw [L7 this,j9,j9,k0,k0];rfl
theorem QV (a:Int) (l:List (List Int)) {n:Nat} (hn:1 ≤ n):rF (l.map (I7 fun y=>y + a)) n = rF l n:=by
 unfold rF
 rw [BT,QU]
 have h1:∀ k,k < n → bF (l.map (I7 fun y=>y + a)) k * kF (l.map (I7 fun y=>y + a)) n k = bF l k * kF l n k + (a * (gF l 0 k * kF l n k) + (if k = 0 then (bF l 0 + a * gF l 0 0) * a * dF l n else 0)):=fun k hk=>by
  rw [Li,Lj a l hk,PQ l k 0]
  by_cases h:k = 0
  ·subst h;rw [if_pos rfl,if_pos rfl];grind
  ·rw [if_neg h,if_neg h];grind
 rw [G8 h1,BI,BI,R6,PO l (show 0 < n by omega),HJ (f:=fun k=>if k = 0 then (bF l 0 + a * gF l 0 0) * a * dF l n else 0) 0 (by omega) fun i _ hi=>if_neg hi]
 rw [if_pos rfl]
 grind
theorem EV {α:Type} (l:List α) (c:Int):C0 l (fun _=>c) = l.length * c:=by
 induction l with
 | nil=>simp [C0]
 | cons x r ih=>rw [C0,ih,List.length_cons,Int.natCast_succ,Int.add_mul,Int.one_mul];omega
theorem NZ (a:Int) (l:List (List Int)):n3 (l.map (I7 fun y=>y + a)) = n3 l:=by
 unfold n3
 rw [List.length_map,R7,R7]
 have h1:C0 l (fun r=>(I7 (fun y=>y + a) r).getD 0 0 * (I7 (fun y=>y + a) r).getD 0 0) = C0 l (fun r=>r.getD 0 0 * r.getD 0 0) + (2 * a * C0 l (fun r=>r.getD 0 0) + l.length * (a * a)):=by
  rw [← EV, ← k0, ← j9, ← j9]
  exact L7 fun r _=>by
   show (r.getD 0 0 + a) * (r.getD 0 0 + a) = _
   grind
 have h2:C0 l (fun r=>(I7 (fun y=>y + a) r).getD 0 0) = C0 l (fun r=>r.getD 0 0) + l.length * a:=by
  rw [← EV, ← j9];rfl
 rw [h1,h2]
 congr 1
 grind
theorem Lk (t:Int) (l:List (List Int)) (i:Nat):bF (l.map (I7 fun y=>y * t)) i = t * bF l i + 0 * gF l i 0:=by
 rw [OT]
 have:∀ r ∈ l,(B9 r).getD i 0 * (r.getD 0 0 * t) = t * ((B9 r).getD i 0 * r.getD 0 0):=fun r _=>by grind
 rw [L7 this,k0]
 show t * bF l i = _
 omega
theorem Ll (t:Int) (l:List (List Int)) {n k:Nat} (hk:k < n):kF (l.map (I7 fun y=>y * t)) n k = t * kF l n k:=by
 rw [HW (KC _ l) (Lk t l),X9 n (gF l) k hk,Int.zero_mul,Int.add_zero];rfl
theorem QX (t:Int) (l:List (List Int)) (n:Nat):rF (l.map (I7 fun y=>y * t)) n = t * t * rF l n:=by
 unfold rF
 have h1:∀ k,k < n → bF (l.map (I7 fun y=>y * t)) k * kF (l.map (I7 fun y=>y * t)) n k = (t * t) * (bF l k * kF l n k):=fun k hk=>by
  rw [Lk,Ll t l hk];grind
 have h2:yF (l.map (I7 fun y=>y * t)) = t * t * yF l:=by
  rw [OU]
  have:∀ r ∈ l,r.getD 0 0 * t * (r.getD 0 0 * t) = (t * t) * (r.getD 0 0 * r.getD 0 0):=fun r _=>by grind
  rw [L7 this,k0];rfl
 rw [G8 h1,R6,BT,h2]
 grind
def R1 (n j:Nat):Int:=if j = 0 then 1 else if j < n then 20 else 2560
theorem V4 (n j:Nat):0 ≤ R1 n j:=by unfold R1;split;decide;split <;> decide
theorem Lm {r:List Int} {n j:Nat} (h:∀ x ∈ r.drop 1, -9 ≤ x ∧ x ≤ 20) (hj:j < n):-R1 n j ≤ (B9 r).getD j 0 ∧ (B9 r).getD j 0 ≤ R1 n j:=by
 unfold R1
 by_cases h0:j = 0
 ·subst h0;rw [if_pos rfl];exact ⟨by show -1 ≤ (1:Int);decide,by show (1:Int) ≤ 1;decide⟩
 ·rw [if_neg h0,if_pos hj];exact BS (by decide) (Cd h) j
theorem Ln {r:List Int} {n j:Nat} (hr:r.length = n) (hn:1 ≤ n) (h:∀ x ∈ r.drop 1, -9 ≤ x ∧ x ≤ 20) (hy:∀ x ∈ r, -2560 ≤ x ∧ x ≤ 2560) (hj:j < n + 1):-R1 n j ≤ (F9 r).getD j 0 ∧ (F9 r).getD j 0 ≤ R1 n j:=by
 by_cases h1:j < n
 ·rw [Ah hr hn h1];exact Lm h h1
 ·have:j = n:=by omega
  subst this
  rw [AA hr hn]
  unfold R1
  rw [if_neg (by omega),if_neg (by omega)]
  exact BS (by decide) hy 0
theorem CL {l:List (List Int)} {f g:List Int → Int} {A B:Int} (hl:l.length ≤ 8) (hA:0 ≤ A) (hB:0 ≤ B) (hf:∀ r ∈ l, -A ≤ f r ∧ f r ≤ A) (hg:∀ r ∈ l, -B ≤ g r ∧ g r ≤ B):((C0 l fun r=>f r * g r).natAbs:Int) ≤ 8 * A * B:=by
 have h1:=p9 (l:=l) (f:=fun r=>f r * g r) (B:=A * B) fun r hr=>N3 (hf r hr) (hg r hr)
 have h2:A * B * (l.length:Int) ≤ A * B * 8:=Int.mul_le_mul_of_nonneg_left (by omega) (Int.mul_nonneg hA hB)
 have h3:8 * A * B = A * B * 8:=by grind
 omega
theorem KD {L:List (List Int)} {n:Nat} (hn:2 ≤ n ∧ n ≤ 3) (hl:1 ≤ L.length ∧ L.length ≤ 8) (hr:∀ r ∈ L,r.length = n ∧ (∀ x ∈ r, -2560 ≤ x ∧ x ≤ 2560) ∧ ∀ x ∈ r.drop 1, -9 ≤ x ∧ x ≤ 20) :
  (dF L n = 0 ∧ (O2 L).1 = 15) ∨ dF L n ≠ 0 ∧ ∃ m,O2 L = (0,m) ∧ Lg L n m:=by
 have hwid:E8 L = n:=by
  obtain ⟨r0,h0⟩:∃ r,L[0]? = some r:=⟨_,List.getElem?_eq_getElem (by omega)⟩
  rw [q8 h0];exact (hr r0 (List.mem_of_getElem? h0)).1
 have hx:V8 L = true:=(U7 L).2 ⟨by rw [hwid];omega,fun r h=>by
  obtain ⟨h1,h2,_⟩:=hr r h
  exact ⟨by rw [hwid];exact h1,fun x hx=>by have:=h2 x hx;omega⟩⟩
 have hdes:∀ r ∈ L,∀ j,j < n → -R1 n j ≤ (B9 r).getD j 0 ∧ (B9 r).getD j 0 ≤ R1 n j:=fun r h j hj=>Lm (hr r h).2.2 hj
 have hy:∀ r ∈ L, -2560 ≤ r.getD 0 0 ∧ r.getD 0 0 ≤ 2560:=fun r h=>BS (by decide) (hr r h).2.1 0
 have hmd:∀ r ∈ L.map B9,∀ x ∈ r, -2560 ≤ x ∧ x ≤ 2560:=fun r h x hx=>by
  obtain ⟨q,hq,rfl⟩:=List.mem_map.1 h
  have:=Cd (hr q hq).2.2 x hx
  omega
 have hmw:∀ r ∈ L.map F9,∀ x ∈ r, -2560 ≤ x ∧ x ≤ 2560:=fun r h x hx=>by
  obtain ⟨q,hq,rfl⟩:=List.mem_map.1 h
  unfold F9 at hx
  rcases List.mem_append.1 hx with e | e
  ·have:=Cd (hr q hq).2.2 x e
   omega
  ·rw [List.mem_singleton.1 e];exact hy q hq
 have gram8:∀ {l:List (List Int)} {m:Nat},l.length ≤ 8 → (∀ r ∈ l,∀ x ∈ r, -2560 ≤ x ∧ x ≤ 2560) → ∀ q ∈ C9 l m,∀ x ∈ q, -52428800 ≤ x ∧ x ≤ 52428800:=fun {l m} hl h q hq x hx=>by
  obtain ⟨i,_,rfl⟩:=List.mem_map.1 hq
  obtain ⟨j,_,rfl⟩:=List.mem_map.1 hx
  have:=CL (l:=l) (f:=fun r=>r.getD i 0) (g:=fun r=>r.getD j 0) (A:=2560) (B:=2560) hl (by decide) (by decide) (fun r hr=>BS (by decide) (h r hr) i) fun r hr=>BS (by decide) (h r hr) j
  omega
 have gG:=gram8 (m:=n) (by rw [List.length_map];exact hl.2) hmd
 have gW:=gram8 (m:=n + 1) (by rw [List.length_map];exact hl.2) hmw
 have hpow:∀ m:Nat,1 ≤ m → m ≤ 4 → ((m:Int) * 52428800) ^ m ≤ 1329227995784915872903807060280344576:=fun m h1 h2=>by
  have:m = 1 ∨ m = 2 ∨ m = 3 ∨ m = 4:=by omega
  rcases this with rfl | rfl | rfl | rfl <;> decide
 have cG:H4 (C9 (L.map B9) n) = 0:=DS (J5 _ _) (by omega) z8 gG (by decide) (hpow n (by omega) (by omega))
 have cW:H4 (C9 (L.map F9) (n + 1)) = 0:=DS (J5 _ _) (by omega) z8 gW (by decide) (hpow (n + 1) (by omega) (by omega))
 have hB:∀ x ∈ N6 L n, -52428800 ≤ x ∧ x ≤ 52428800:=fun x hx=>by
  obtain ⟨i,hi,rfl⟩:=List.mem_map.1 hx
  have:=CL (l:=L) (f:=fun r=>(B9 r).getD i 0) (g:=fun r=>r.getD 0 0) (A:=2560) (B:=2560) hl.2 (by decide) (by decide) (fun r h=>by have:=BS (by decide) (Cd (hr r h).2.2) i;omega) hy
  omega
 have cK:∀ k,k < n → H4 (K0 (C9 (L.map B9) n) (N6 L n) k) = 0:=fun k h=>by
  refine DS (n:=n) (by rw [BQ,J5]) (by omega) (NW (J5 _ _) z8) (fun r hr x hx=>?_) (by decide) (hpow n (by omega) (by omega))
  obtain ⟨i,hi,rfl⟩:=List.mem_map.1 hr
  rcases List.mem_or_eq_of_mem_set hx with e | e
  ·rw [List.getD_eq_getElem?_getD] at e
   cases g:(C9 (L.map B9) n)[i]? with
   | none=>rw [g] at e;cases e
   | some q=>rw [g] at e;exact gG q (List.mem_of_getElem? g) x e
  ·rw [e];exact BS (by decide) hB i
 by_cases hD:dF L n = 0
 ·exact .inl ⟨hD,NX hx hwid (by omega) cG cK hD⟩
 right
 have n23:n = 2 ∨ n = 3:=by omega
 have bg:∀ i j,i < n → j < n → ((gF L i j).natAbs:Int) ≤ 8 * R1 n i * R1 n j:=fun i j hi hj=>CL hl.2 (V4 n i) (V4 n j) (fun r h=>hdes r h i hi) fun r h=>hdes r h j hj
 have bb:∀ i,i < n → ((bF L i).natAbs:Int) ≤ 8 * R1 n i * 2560:=fun i hi=>CL hl.2 (V4 n i) (by decide) (fun r h=>hdes r h i hi) hy
 have w8:∀ i,0 ≤ 8 * R1 n i:=fun i=>Int.mul_nonneg (by decide) (V4 n i)
 have bD:-mF ≤ dF L n ∧ dF L n ≤ mF:=by
  have h1:=Er n (gF L) (fun i=>8 * R1 n i) (R1 n) (fun i _=>w8 i) (fun j _=>V4 n j) bg
  have h2:CJ n * (J0 n (fun i=>8 * R1 n i) * J0 n (R1 n)) ≤ mF:=by rcases n23 with rfl | rfl <;> decide
  unfold dF;omega
 have bK:∀ k,k < n → -mF ≤ kF L n k ∧ kF L n k ≤ mF:=fun k hk=>by
  have h1:=Er n (D6 (gF L) k (bF L)) (fun i=>8 * R1 n i) (fun j=>if j = k then 2560 else R1 n j) (fun i _=>w8 i) (fun j _=>by split;decide;exact V4 n j) fun i j hi hj=>by
   simp only [D6]
   split
   ·exact bb i hi
   ·exact bg i j hi hj
  have h2:CJ n * (J0 n (fun i=>8 * R1 n i) * J0 n fun j=>if j = k then 2560 else R1 n j) ≤ mF:=by
   rcases n23 with rfl | rfl
   ·rcases (show k = 0 ∨ k = 1 by omega) with rfl | rfl <;> decide
   ·rcases (show k = 0 ∨ k = 1 ∨ k = 2 by omega) with rfl | rfl | rfl <;> decide
  unfold kF;omega
 have bR:-mF ≤ rF L n ∧ rF L n ≤ mF:=by
  rw [← Et (fun r h=>(hr r h).1) (by omega) hD]
  unfold F5
  rw [J5]
  have h1:=Er (n + 1) (P1 (C9 (L.map F9) (n + 1))) (fun i=>8 * R1 n i) (R1 n) (fun i _=>w8 i) (fun j _=>V4 n j) fun i j hi hj=>by
   rw [BP hi hj,R7]
   exact CL hl.2 (V4 n i) (V4 n j) (fun r h=>Ln (hr r h).1 (by omega) (hr r h).2.2 (hr r h).2.1 hi) fun r h=>Ln (hr r h).1 (by omega) (hr r h).2.2 (hr r h).2.1 hj
  have h2:CJ (n + 1) * (J0 (n + 1) (fun i=>8 * R1 n i) * J0 (n + 1) (R1 n)) ≤ mF:=by rcases n23 with rfl | rfl <;> decide
  omega
 have htot:∃ p,n3 L = some p:=by
  have h1:=p9 (l:=L) (f:=fun r=>r.getD 0 0 * r.getD 0 0) (B:=6553600) fun r hr=>by
   have:=N3 (hy r hr) (hy r hr)
   omega
  have h2:=p9 (l:=L) (f:=fun r=>r.getD 0 0) (B:=2560) fun r hr=>hy r hr
  have h3:=N3 (a:=(L.length:Int)) (A:=8) (B:=52428800) (b:=C0 L fun r=>r.getD 0 0 * r.getD 0 0) (by omega) (by omega)
  have h4:=N3 (A:=20480) (B:=20480) (a:=C0 L fun r=>r.getD 0 0) (b:=C0 L fun r=>r.getD 0 0) (by omega) (by omega)
  unfold n3
  exact BR (by omega) (by unfold mF;omega) (by unfold mF;omega)
 obtain ⟨m,hm⟩:=QT hx hwid (by omega) cG cK cW hD (fun k h=>BR hD (bK k h) bD) (BR hD bR bD) htot
 obtain ⟨_,_,_,hf⟩:=PT hm
 rw [hwid] at hf
 exact ⟨hD,m,hm,hf⟩
theorem OV {R:List (List Int)} {n:Nat} {f:Int → Int} (hn:2 ≤ n) (hr:∀ r ∈ R,r.length = n ∧ ∀ x ∈ r, -9 ≤ x ∧ x ≤ 20) (hf:∀ x, -9 ≤ x → x ≤ 20 → -2560 ≤ f x ∧ f x ≤ 2560):∀ r ∈ R.map (I7 f),r.length = n ∧ (∀ x ∈ r, -2560 ≤ x ∧ x ≤ 2560) ∧ ∀ x ∈ r.drop 1, -9 ≤ x ∧ x ≤ 20:=fun r h=>by
 obtain ⟨q,hq,rfl⟩:=List.mem_map.1 h
 obtain ⟨h1,h2⟩:=hr q hq
 refine ⟨by unfold I7;rw [List.length_cons,List.length_drop];omega,fun x hx=>?_,fun x hx=>h2 x (List.mem_of_mem_drop hx)⟩
 rcases List.mem_cons.1 hx with e | e
 ·rw [e]
  cases q with
  | nil=>simp at h1;omega
  | cons y t=>have:=h2 y (by simp);exact hf y this.1 this.2
 ·have:=h2 x (List.mem_of_mem_drop e);omega
theorem PU {R:List (List Int)} {n:Nat} {a t:Int} (hn:2 ≤ n ∧ n ≤ 3) (hl:1 ≤ R.length ∧ R.length ≤ 8) (hr:∀ r ∈ R,r.length = n ∧ ∀ x ∈ r, -9 ≤ x ∧ x ≤ 20) (ha:-128 ≤ a ∧ a ≤ 127) (ht:-128 ≤ t ∧ t ≤ 127) :
  ((O2 R).1 = 15 ∧ (O2 (R.map (I7 fun y=>y + a))).1 = 15 ∧ (O2 (R.map (I7 fun y=>y * t))).1 = 15) ∨
  ∃ m p q,O2 R = (0,m) ∧ O2 (R.map (I7 fun y=>y + a)) = (0,p) ∧ O2 (R.map (I7 fun y=>y * t)) = (0,q) ∧ p.res = m.res ∧ p.tot = m.tot ∧ m.coefs.length = n ∧ p.coefs.length = n ∧ q.coefs.length = n ∧
   (∀ (k:Nat) c,m.coefs[k]? = some c → p.coefs[k]? = some (HT c (if k = 0 then a else 0,1)).2 ∧ q.coefs[k]? = some (HU c (t,1)).2) ∧ HU m.res (t * t,1) = (0,q.res):=by
 have f1:=KD hn hl fun r h=>⟨(hr r h).1,fun x hx=>by have:=(hr r h).2 x hx;omega,fun x hx=>(hr r h).2 x (List.mem_of_mem_drop hx)⟩
 have f2:=KD (L:=R.map (I7 fun y=>y + a)) hn (by rw [List.length_map];exact hl) (OV hn.1 hr fun x h1 h2=>by omega)
 have f3:=KD (L:=R.map (I7 fun y=>y * t)) hn (by rw [List.length_map];exact hl) (OV hn.1 hr fun x h1 h2=>by have:=N3 (A:=20) (B:=128) (a:=x) (b:=t) (by omega) (by omega);omega)
 rw [BT] at f2 f3
 rcases f1 with ⟨h0,f1⟩ | ⟨hD,m,hm,fm⟩
 ·left
  rcases f2 with ⟨_,f2⟩ | ⟨h,_⟩
  rotate_left
  ·exact absurd h0 h
  rcases f3 with ⟨_,f3⟩ | ⟨h,_⟩
  rotate_left
  ·exact absurd h0 h
  exact ⟨f1,f2,f3⟩
 right
 rcases f2 with ⟨h,_⟩ | ⟨_,p,hp,fp⟩
 ·exact absurd h hD
 rcases f3 with ⟨h,_⟩ | ⟨_,q,hq,fq⟩
 ·exact absurd h hD
 refine ⟨m,p,q,hm,hp,hq,?_,?_,fm.len,fp.len,fq.len,fun k c hc=>?_,?_⟩
 ·have h1:=fp.res
  rw [QV a R (by omega),BT,fm.res] at h1
  exact (Option.some.inj h1).symm
 ·have h1:=fp.tot
  rw [NZ,fm.tot] at h1
  exact (Option.some.inj h1).symm
 ·have hk:k < n:=by rw [← fm.len];exact (List.getElem?_eq_some_iff.1 hc).1
  have h1:=fm.coef k hk
  rw [hc] at h1
  have h2:=fp.coef k hk
  have h3:=fq.coef k hk
  rw [Lj a R hk,BT] at h2
  rw [Ll t R hk,BT] at h3
  constructor
  ·cases e:p.coefs[k]? with
   | none=>rw [List.getElem?_eq_none_iff,fp.len] at e;omega
   | some z =>
     rw [e] at h2
     rw [NY hD (by unfold mF;split <;> omega) h1.symm h2.symm]
  ·cases e:q.coefs[k]? with
   | none=>rw [List.getElem?_eq_none_iff,fq.len] at e;omega
   | some z =>
     rw [e] at h3
     rw [HV hD (by unfold mF;omega) h1.symm h3.symm]
 ·have h3:=fq.res
  rw [QX,BT] at h3
  have ht2:=N3 (A:=128) (B:=128) (a:=t) (b:=t) (by omega) (by omega)
  exact HV hD (by unfold mF;omega) fm.res h3
end Go.Proofs.YtbhegmcbpolemaaDoor
