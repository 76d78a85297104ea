/- Chapter 3: what is printed is read (plain). -/
import Derived.Test.YtiphlhoclaogjabGreatDoorQSp8
import Derived.Test.YtiphlhoclaogjabGreatDoorQBk1
import Derived.Test.YtiphlhoclaogjabGreatDoorQRp2
set_option linter.unusedVariables false
set_option linter.unnecessarySimpa false
set_option linter.unusedSimpArgs false
namespace Go.Proofs.YtiphlhoclaogjabGreatDoor
open Go Go.Av
attribute [local irreducible] D1 B5 D5 D3 DQ D7 E0 St.le B3 B6
set_option maxRecDepth 100000
theorem Zf {z:List UInt8} (h:(Pd z).2 = true):(L1 [45] z).1.length ≤ 15:=by
 unfold Pd at h
 by_cases h1:(L1 [45] z).1.length < 1 ∨ 15 < (L1 [45] z).1.length
 ·rw [if_pos h1] at h;cases h
 ·omega
theorem Bv {n:Int} (h1:-100000000000000 ≤ n) (h2:n ≤ 100000000000000):H8 (Lib.itoa n) = (n,true):=by
 have h:=Zf (z:=Lib.itoa n) (by rw [UQ h1 h2])
 unfold H8
 rw [if_neg (by omega),Rh h1 h2]
 exact Prod.ext rfl (decide_eq_true rfl)
theorem QB (n:Int):(Lib.itoa n).all (C8 32) = true:=by
 have h:=YX n
 rw [List.all_eq_true] at h ⊢
 intro b hb
 have:=h b hb
 unfold Jr at this
 have:=(of_decide_eq_true this).1
 unfold C8
 rw [decide_eq_false (by rintro rfl;exact this rfl)];rfl
def l8 (w:List UInt8):Prop:=w ≠ [] ∧ w.all (C8 32) = true ∧ w.all (C8 10) = true
def Kh (ws:List (List UInt8)):Prop:=ws ≠ [] ∧ ∀ w ∈ ws,l8 w
theorem b4 (n:Int):l8 (Lib.itoa n):=by
 obtain ⟨b,r,e,_⟩:=Jz n
 exact ⟨by rw [e];simp,QB n,OS (.inl rfl) n⟩
theorem BR {n:List UInt8} (h:D0 n = true):l8 n:=⟨(KC h).1,(KC h).2,XA (.inl rfl) h⟩
theorem OX (c:UInt8) (hc:C8 c 32 = true):∀ ws:List (List UInt8),(∀ w ∈ ws,w.all (C8 c) = true) → (e9 [32] ws).all (C8 c) = true
 | [],_=>rfl
 | [x],h=>h x (by simp)
 | x :: y :: r,h=>by
   rw [e9,List.all_append,List.all_append,h x (by simp),OX c hc (y :: r) (fun w hw=>h w (by simp [hw]))]
   simp [hc]
theorem KG {ws:List (List UInt8)} (h:Kh ws) (u:List UInt8):(B7 ws ++ u).takeWhile (C8 10) = e9 [32] ws ∧ (B7 ws ++ u).dropWhile (C8 10) = 10 :: u ∧ U8 [32] (e9 [32] ws) = ws ∧ [] ∉ ws:=by
 have e:B7 ws ++ u = e9 [32] ws ++ 10 :: u:=by unfold B7;rw [FV,List.append_assoc];rfl
 obtain ⟨h1,h2⟩:=SC (c:=10) (n:=e9 [32] ws) (u:=u) (OX 10 (by decide) ws fun w hw=>(h.2 w hw).2.2)
 rw [e]
 exact ⟨h1,h2,Wy h.1 fun w hw=>(h.2 w hw).2.1,fun hm=>(h.2 _ hm).1 rfl⟩
def runs:D6 → List (List (List UInt8)) → Option D6
 | r,[]=>some r
 | r,w :: L=>if (H4 r w).2 = true then runs (H4 r w).1 L else none
theorem Ag:∀ (A B:List (List (List UInt8))) (r:D6),runs r (A ++ B) = (runs r A).bind fun r'=>runs r' B
 | [],B,r=>rfl
 | w :: A,B,r=>by
   rw [List.cons_append,runs,runs]
   split
   ·exact Ag A B _
   ·rfl
theorem KH:∀ (L:List (List (List UInt8))) (r r':D6) (n:Nat) (p:List UInt8) (f:Nat) (u:List UInt8),(∀ w ∈ L,Kh w ∧ ¬ B9 w 0 = Y6) → runs r L = some r' →
  M9 (f + L.length) r n p (L.flatMap B7 ++ u) = M9 f r' (n + L.length) (p ++ L.flatMap B7) u
 | [],r,r',n,p,f,u,_,h=>by
   cases h
   simp
 | w :: L,r,r',n,p,f,u,hg,h=>by
   obtain ⟨g1,g2⟩:=hg w (by simp)
   rw [runs] at h
   split at h
   ·rename_i ho
    have e1:f + (w :: L).length = (f + L.length) + 1:=by simp only [List.length_cons];omega
    rw [e1,List.flatMap_cons,List.append_assoc,M9]
    obtain ⟨h1,h2,h3,h4⟩:=KG g1 (L.flatMap B7 ++ u)
    rw [h1,h2,h3,if_neg (by rintro (g | g);(exact absurd g (by simp));exact h4 g),if_neg g2,if_neg (by rw [ho];decide)]
    have:=KH L _ r' (n + 1) (p ++ e9 [32] w ++ [10]) f u (fun w hw=>hg w (by simp [hw])) h
    rw [List.drop_succ_cons,List.drop_zero,this]
    have e2:p ++ e9 [32] w ++ [10] ++ L.flatMap B7 = p ++ (B7 w ++ L.flatMap B7):=by
     unfold B7;rw [FV];simp only [List.append_assoc]
    rw [e2,show n + 1 + L.length = n + (w :: L).length by simp only [List.length_cons];omega]
   ·cases h
def Mp (l:CL):List (List (List UInt8)):=[G6,l.1] :: l.2.map J7
def k8 (s:B8) (rows:List (List Int)):List (List (List UInt8)):=s.lists.flatMap Mp ++ s.cols.map C3 ++ rows.map (O4 s)
theorem XO (l:CL):(Mp l).flatMap B7 = S0 l:=by
 unfold Mp S0
 rw [List.flatMap_cons,List.flatMap_map]
theorem SY {α β γ:Type} (f:α → List β) (g:β → List γ) (l:List α):(l.flatMap f).flatMap g = l.flatMap fun x=>(f x).flatMap g:=List.flatMap_assoc
theorem Ds (s:B8) (rows:List (List Int)):(k8 s rows).flatMap B7 = F9 s rows:=by
 unfold k8 F9 l9
 rw [List.flatMap_append,List.flatMap_append,SY,List.flatMap_map,List.flatMap_map]
 congr 2
 exact congrArg (fun f=>List.flatMap f s.lists) (funext XO)
theorem Dt {r:D6} {w:List (List UInt8)} {r':D6} (h:H4 r w = (r',true)) (L:List (List (List UInt8))):runs r (w :: L) = runs r' L:=by
 rw [runs,h,if_pos rfl]
theorem IP (X:List CL) (nm:List UInt8):∀ (cs done:List Code),(∀ c ∈ cs, -1 ≤ c.parent ∧ c.parent ≤ 60) → runs ⟨X ++ [(nm,done)],[],[],0⟩ (cs.map J7) = some ⟨X ++ [(nm,done ++ cs)],[],[],0⟩
 | [],done,_=>by rw [List.append_nil];rfl
 | c :: cs,done,h=>by
   have hc:=h c (by simp)
   have e:H4 ⟨X ++ [(nm,done)],[],[],0⟩ (J7 c) = (⟨X ++ [(nm,done ++ [c])],[],[],0⟩,true):=by
    unfold H4
    rw [if_pos (.inr rfl)]
    unfold a7
    rw [show B9 (J7 c) 0 = X0 from rfl,if_neg (by simp),if_neg (show ¬ X0 = G6 by decide),if_neg (by rintro (h | h);(exact h rfl);simp at h)]
    rw [CR]
    show ((⟨X ++ [(nm,done ++ [⟨c.name,(H8 (Lib.itoa c.parent)).1⟩])],[],[],0⟩:D6),(H8 (Lib.itoa c.parent)).2) = _
    rw [Bv (by omega) (by omega)]
   rw [List.map_cons,Dt e,IP X nm cs (done ++ [c]) fun d hd=>h d (by simp [hd])]
   rw [List.append_assoc];rfl
theorem IQ:∀ (ls X:List CL),(∀ l ∈ ls,∀ c ∈ l.2, -1 ≤ c.parent ∧ c.parent ≤ 60) → runs ⟨X,[],[],0⟩ (ls.flatMap Mp) = some ⟨X ++ ls,[],[],0⟩
 | [],X,_=>by rw [List.append_nil];rfl
 | l :: ls,X,h=>by
   rw [List.flatMap_cons,Ag]
   have e:H4 ⟨X,[],[],0⟩ [G6,l.1] = (⟨X ++ [(l.1,[])],[],[],0⟩,true):=by
    unfold H4
    rw [if_pos (.inl rfl)]
    unfold a7
    rw [show B9 [G6,l.1] 0 = G6 from rfl,if_neg (by simp),if_pos (show G6 = G6 from rfl),if_pos (show [G6,l.1].length = 2 from rfl)]
    rfl
   unfold Mp
   rw [Dt e,IP X l.1 l.2 [] (h l (by simp)),List.nil_append]
   show runs ⟨X ++ [(l.1,l.2)],[],[],0⟩ _ = _
   have:=IQ ls (X ++ [(l.1,l.2)]) fun m hm=>h m (by simp [hm])
   unfold Mp at this
   rw [this,List.append_assoc];rfl
def Yu (c:C1):Prop:=CS (C3 c) = (c,true) ∧ ¬ Dp (C3 c) ∧ 2 ≤ (C3 c).length ∧ (B9 (C3 c) 0 = W2 ∨ B9 (C3 c) 0 = M3 ∨ B9 (C3 c) 0 = I5)
theorem KI (ls:List CL):∀ (cs C:List C1) (st:Int),(∀ c ∈ cs,Yu c) → ¬ st = 2 → runs ⟨ls,C,[],st⟩ (cs.map C3) = some ⟨ls,C ++ cs,[],if cs = [] then st else 1⟩
 | [],C,st,_,_=>by rw [List.append_nil];rfl
 | c :: cs,C,st,h,hs=>by
   obtain ⟨k1,k2,k3,k4⟩:=h c (by simp)
   have e:H4 ⟨ls,C,[],st⟩ (C3 c) = (⟨ls,C ++ [c],[],1⟩,true):=by
    unfold H4
    rw [if_neg (by rintro (h | h) <;> rw [h] at k4 <;> revert k4 <;> decide),if_pos k4]
    unfold Y7
    rw [if_neg (by rintro (h | h);(exact hs h);omega),if_neg k2,k1]
   rw [List.map_cons,Dt e,KI ls cs (C ++ [c]) 1 (fun d hd=>h d (by simp [hd])) (by decide)]
   rw [ite_self,if_neg (List.cons_ne_nil _ _),List.append_assoc]
   rfl
theorem KJ:∀ {l:List Int},(∀ n ∈ l, -100000000000000 ≤ n ∧ n ≤ 100000000000000) → N3 (l.map Lib.itoa) = some l
 | [],_=>rfl
 | n :: l,h=>by
   have hn:=h n (by simp)
   rw [List.map_cons,N3,Bv hn.1 hn.2,if_pos rfl,KJ fun m hm=>h m (by simp [hm])]
   rfl
theorem OY {s:B8} (hr:F8 s = 0) {c:C1} (hc:c ∈ s.cols):Yu c:=by
 obtain ⟨b1,b2,b3⟩:=y9 hr hc
 obtain ⟨i,hi,rfl⟩:=List.getElem_of_mem hc
 have hg:=List.getElem?_eq_getElem hi
 obtain ⟨p1,p2,p3,p4⟩:=BL ((F7 hr).2.2.2.1 i _ hg)
 have h6:=(F7 hr).1
 generalize s.cols[i] = c at *
 unfold Af at p4
 obtain ⟨u1,u2⟩:=of_decide_eq_true p4
 obtain ⟨nm,kd,lt,lo,hi2,ws,op⟩:=c
 dsimp only at *
 rcases Hz hr hg with ⟨hk,_⟩ | ⟨hk,_⟩ | ⟨hk,_⟩
 ·dsimp only at hk
  subst hk
  have e0:lt = 0:=Decidable.byContradiction fun g=>u1 ⟨by decide,g⟩
  obtain ⟨e1,e2,e3,e4⟩:=u2.resolve_left (by decide)
  have e5:=List.length_eq_zero_iff.1 e3
  subst e0;subst e1;subst e2;subst e4;subst e5
  refine ⟨rfl,fun h=>h.1 rfl,Nat.le_refl _, .inl rfl⟩
 ·dsimp only at hk
  subst hk
  obtain ⟨e1,e2,e3,e4⟩:=u2.resolve_left (by decide)
  have e5:=List.length_eq_zero_iff.1 e3
  subst e1;subst e2;subst e4;subst e5
  have hl:=b2 rfl
  refine ⟨?_,fun h=>h.2.1 rfl,by show 2 ≤ 3;omega, .inr (.inl rfl)⟩
  show (if M3 = W2 then _ else if M3 = M3 then (if 3 = 3 then ((⟨nm,2,(H8 (Lib.itoa lt)).1,0,0,[],false⟩:C1),(H8 (Lib.itoa lt)).2) else _) else _) = _
  rw [if_neg (by decide),if_pos (show M3 = M3 from rfl)]
  refine (if_pos rfl).trans ?_
  rw [Bv (by omega) (by omega)]
 ·dsimp only at hk
  subst hk
  have e0:lt = 0:=Decidable.byContradiction fun g=>u1 ⟨by decide,g⟩
  subst e0
  obtain ⟨m1,m2,m3,m4,m5,m6⟩:=a6 (b3 (by decide) (by decide))
  have hw:=Ap m6
  dsimp only at *
  have hW:C3 ⟨nm,3,0,lo,hi2,ws,op⟩ = [I5,nm,Lib.itoa lo,Lib.itoa hi2,if op = true then G2 else F5] ++ ws.map Lib.itoa:=rfl
  unfold Yu
  rw [hW]
  refine ⟨?_,?_,by simp, .inr (.inr rfl)⟩
  ·unfold CS
   rw [show B9 ([I5,nm,Lib.itoa lo,Lib.itoa hi2,if op = true then G2 else F5] ++ ws.map Lib.itoa) 0 = I5 from rfl,if_neg (show ¬ I5 = W2 by decide),if_neg (show ¬ I5 = M3 by decide)]
   have e1:(List.take 2 (List.drop 2 ([I5,nm,Lib.itoa lo,Lib.itoa hi2,if op = true then G2 else F5] ++ ws.map Lib.itoa)) ++ List.drop 5 ([I5,nm,Lib.itoa lo,Lib.itoa hi2,if op = true then G2 else F5] ++ ws.map Lib.itoa)) = (lo :: hi2 :: ws).map Lib.itoa:=rfl
   rw [e1,KJ (by
    intro n hn
    simp only [List.mem_cons] at hn
    rcases hn with rfl | rfl | hn
    ·omega
    ·omega
    ·have:=hw n hn;omega)]
   show ((⟨nm,3,0,lo,hi2,ws,decide ((if op = true then G2 else F5) = G2)⟩:C1),true) = _
   cases op <;> rfl
  ·rintro ⟨_,_,h | ⟨h1,h2⟩⟩
   ·simp only [List.length_append,List.length_cons,List.length_nil,List.length_map] at h
    omega
   ·have h1:¬ (if op = true then G2 else F5) = F5:=h1
    have h2:¬ (if op = true then G2 else F5) = G2:=h2
    cases op
    ·exact h1 rfl
    ·exact h2 rfl
theorem VC {s:B8} (hr:F8 s = 0) {c:C1} {v:Int} (hc:c ∈ s.cols) (hh:M0 s c v = true):d8 s.lists (c,H2 s (c,v)) = (v,true):=by
 obtain ⟨_,w1,w2⟩:=AR hr (q:=(c,v)) hc hh
 obtain ⟨b1,b2,b3⟩:=y9 hr hc
 dsimp only at w1 w2
 unfold d8
 dsimp only
 by_cases h2:c.kind = 2
 ·obtain ⟨g1,g2⟩:=b2 h2
  obtain ⟨v1,v2⟩:=w1 h2
  rw [if_pos h2,if_neg (by omega)]
  obtain ⟨l,hl⟩:∃ l,s.lists[c.lst.toNat]? = some l:=⟨_,List.getElem?_eq_getElem (by omega)⟩
  rw [P4 hl] at v2
  obtain ⟨cd,hcd⟩:∃ cd,l.2[v.toNat]? = some cd:=⟨_,List.getElem?_eq_getElem (by omega)⟩
  have hvw:H2 s (c,v) = cd.name:=by unfold H2;rw [if_pos h2,P4 hl,O2 hcd]
  rw [hvw,O2 hl]
  have hch:=(F7 hr).2.2.1 _ (List.mem_of_getElem? hl)
  have hf:=Hx (p:=fun d:Code=>decide (d.name = cd.name)) (k:=0) hcd (decide_eq_true rfl) (fun j d hj hd=>decide_eq_false ((MP l.2 [] (Rj hch) _ cd hcd).2 j d hj hd))
  rw [hf,show (0:Int) + (v.toNat:Int) = v by omega,decide_eq_true (by omega:0 ≤ v)]
 ·rw [if_neg h2]
  obtain ⟨v1,v2⟩:=w2 h2
  by_cases h3:c.kind = 3 ∧ v = (-1099511627776)
  ·have hvw:H2 s (c,v) = Ep:=by unfold H2;rw [if_neg h2,if_pos h3]
   rw [hvw,if_pos ⟨h3.1,rfl⟩]
   obtain ⟨m1,_⟩:=a6 (b3 (by omega) h2)
   unfold M0 at hh
   rw [if_neg (by omega),if_neg h2,Bool.or_eq_true,Bool.and_eq_true] at hh
   rcases hh with hh | hh
   ·have:=of_decide_eq_true hh;omega
   ·rw [hh.1,h3.2]
  ·have hvw:H2 s (c,v) = Lib.itoa v:=by unfold H2;rw [if_neg h2,if_neg h3]
   rw [hvw]
   have hna:¬ Lib.itoa v = Ep:=fun e=>by
    obtain ⟨b,r,e1,e2⟩:=Jz v
    rw [e] at e1
    cases e1
    revert e2;decide
   rw [if_neg (fun g=>hna g.2),Bv (by omega) (by omega)]
   dsimp only
   have hm:¬ v = (-1099511627776):=fun e=>by
    by_cases hk:c.kind = 3
    ·exact h3 ⟨hk,e⟩
    ·unfold M0 at hh
     obtain ⟨i,hi,rfl⟩:=List.getElem_of_mem hc
     rcases Hz hr (List.getElem?_eq_getElem hi) with ⟨g,_⟩ | ⟨g,_⟩ | ⟨g,_⟩
     ·rw [if_pos g] at hh
      have:=of_decide_eq_true hh;omega
     ·exact h2 g
     ·exact hk g
   rw [decide_eq_true hm];rfl
theorem Mq (s:B8):∀ (a:List C1) (b:List Int),a.length = b.length → (∀ q ∈ a.zip b,d8 s.lists (q.1,H2 s q) = (q.2,true)) → S6 (d8 s.lists) (a.zip ((a.zip b).map (H2 s))) = some b
 | [],[],_,_=>rfl
 | [],_ :: _,h,_=>by cases h
 | _ :: _,[],h,_=>by cases h
 | x :: a,y :: b,h,hq=>by
   have h1:=hq (x,y) (by simp)
   rw [List.zip_cons_cons,List.map_cons,List.zip_cons_cons,S6,h1,if_pos rfl,Mq s a b (by simpa using h) fun q hq2=>hq q (by simp [hq2])]
   rfl
theorem KK {s:B8} (hr:F8 s = 0):∀ (rows R:List (List Int)) (st:Int),(∀ r ∈ rows,I4 s r = true) → runs ⟨s.lists,s.cols,R,st⟩ (rows.map (O4 s)) = some ⟨s.lists,s.cols,R ++ rows,if rows = [] then st else 2⟩
 | [],R,st,_=>by rw [List.append_nil];rfl
 | x :: rows,R,st,h=>by
   obtain ⟨hl,hh⟩:=r8 (h x (by simp))
   have e:H4 ⟨s.lists,s.cols,R,st⟩ (O4 s x) = (⟨s.lists,s.cols,R ++ [x],2⟩,true):=by
    unfold H4
    rw [show B9 (O4 s x) 0 = L2 from rfl,if_neg (show ¬ (L2 = G6 ∨ L2 = X0) by decide),if_neg (show ¬ (L2 = W2 ∨ L2 = M3 ∨ L2 = I5) by decide),if_pos (show L2 = L2 from rfl)]
    unfold z6
    rw [if_neg (by unfold O4;simp only [List.length_cons,List.length_map,List.length_zip];omega)]
    show (match S6 (d8 s.lists) (s.cols.zip ((s.cols.zip x).map (H2 s))) with | some vs=>_ | none=>_) = _
    rw [Mq s s.cols x hl.symm fun q hq=>VC hr (List.of_mem_zip hq).1 (hh q hq)]
   rw [List.map_cons,Dt e,KK hr rows (R ++ [x]) 2 fun r hr=>h r (by simp [hr])]
   rw [ite_self,if_neg (List.cons_ne_nil _ _),List.append_assoc]
   rfl
theorem SZ {s:B8} {rows:List (List Int)} (hr:F8 s = 0) (hf:∀ r ∈ rows,I4 s r = true):∃ st,runs z3 (k8 s rows) = some ⟨s.lists,s.cols,rows,st⟩:=by
 unfold k8
 rw [Ag,Ag]
 have h1:=IQ s.lists [] fun l hl c hc=>(Cz ((F7 hr).2.2.1 l hl) hc).2
 rw [List.nil_append] at h1
 unfold z3
 rw [h1]
 show ∃ st,(Option.bind (runs ⟨s.lists,[],[],0⟩ (s.cols.map C3)) _) = _
 rw [KI s.lists s.cols [] 0 (fun c hc=>OY hr hc) (by decide),List.nil_append]
 show ∃ st,runs ⟨s.lists,s.cols,[],_⟩ (rows.map (O4 s)) = _
 rw [KK hr rows [] _ hf,List.nil_append]
 exact ⟨_,rfl⟩
theorem Sa {s:B8} (hr:F8 s = 0) {c:C1} {v:Int} (hc:c ∈ s.cols) (hh:M0 s c v = true):l8 (H2 s (c,v)):=by
 obtain ⟨_,w1,w2⟩:=AR hr (q:=(c,v)) hc hh
 obtain ⟨b1,b2,b3⟩:=y9 hr hc
 dsimp only at w1 w2
 unfold H2
 dsimp only
 by_cases h2:c.kind = 2
 ·obtain ⟨g1,g2⟩:=b2 h2
  obtain ⟨v1,v2⟩:=w1 h2
  rw [if_pos h2]
  obtain ⟨l,hl⟩:∃ l,s.lists[c.lst.toNat]? = some l:=⟨_,List.getElem?_eq_getElem (by omega)⟩
  rw [P4 hl] at v2 ⊢
  obtain ⟨cd,hcd⟩:∃ cd,l.2[v.toNat]? = some cd:=⟨_,List.getElem?_eq_getElem (by omega)⟩
  rw [O2 hcd]
  exact BR (El ((F7 hr).2.2.1 _ (List.mem_of_getElem? hl)) _ (List.mem_of_getElem? hcd))
 ·rw [if_neg h2]
  split
  ·exact ⟨by decide,by decide,by decide⟩
  ·exact b4 v
theorem VD {s:B8} (hr:F8 s = 0) {l:CL} (hl:l ∈ s.lists):D0 l.1 = true:=by
 have hch:=(F7 hr).2.2.1 l hl
 cases hb:D0 l.1 with
 | true=>rfl
 | false=>rw [← AM (cs:=l.2) hb] at hch;cases hch
theorem Ng {s:B8} {rows:List (List Int)} (hr:F8 s = 0) (hf:∀ r ∈ rows,I4 s r = true):∀ w ∈ k8 s rows,Kh w ∧ ¬ B9 w 0 = Y6:=by
 have kw:l8 G6 ∧ l8 X0 ∧ l8 W2 ∧ l8 M3 ∧ l8 I5 ∧ l8 L2 ∧ l8 G2 ∧ l8 F5:=by
  refine ⟨?_,?_,?_,?_,?_,?_,?_,?_⟩ <;> exact ⟨by decide,by decide,by decide⟩
 obtain ⟨q1,q2,q3,q4,q5,q6,q7,q8⟩:=kw
 intro w hw
 unfold k8 at hw
 rw [List.mem_append,List.mem_append] at hw
 rcases hw with (hw | hw) | hw
 ·obtain ⟨l,hl,hw⟩:=List.mem_flatMap.1 hw
  unfold Mp at hw
  rcases List.mem_cons.1 hw with rfl | hw
  ·refine ⟨⟨by simp,fun w hw=>?_⟩,by show ¬ G6 = Y6;decide⟩
   simp only [List.mem_cons,List.not_mem_nil,or_false] at hw
   rcases hw with rfl | rfl
   ·exact q1
   ·exact BR (VD hr hl)
  ·obtain ⟨c,hc,rfl⟩:=List.mem_map.1 hw
   refine ⟨⟨by simp [J7],fun w hw=>?_⟩,by show ¬ X0 = Y6;decide⟩
   simp only [J7,List.mem_cons,List.not_mem_nil,or_false] at hw
   rcases hw with rfl | rfl | rfl
   ·exact q2
   ·exact BR (El ((F7 hr).2.2.1 l hl) c hc)
   ·exact b4 _
 ·obtain ⟨c,hc,rfl⟩:=List.mem_map.1 hw
  have hnm:l8 c.name:=by
   obtain ⟨i,hi,rfl⟩:=List.getElem_of_mem hc
   exact BR (UP hr (List.getElem?_eq_getElem hi))
  obtain ⟨k1,k2,k3,k4⟩:=OY hr hc
  refine ⟨⟨fun e=>by rw [e] at k3;simp at k3,fun w hw=>?_⟩,by rcases k4 with k | k | k <;> rw [k] <;> decide⟩
  unfold C3 at hw
  split at hw
  ·simp only [List.mem_cons,List.not_mem_nil,or_false] at hw
   rcases hw with rfl | rfl
   ·exact q3
   ·exact hnm
  ·split at hw
   ·simp only [List.mem_cons,List.not_mem_nil,or_false] at hw
    rcases hw with rfl | rfl | rfl
    ·exact q4
    ·exact hnm
    ·exact b4 _
   ·unfold AQ at hw
    simp only [List.mem_append,List.mem_cons,List.not_mem_nil,or_false,List.mem_map] at hw
    rcases hw with (rfl | rfl | rfl | rfl | rfl) | ⟨x,_,rfl⟩
    ·exact q5
    ·exact hnm
    ·exact b4 _
    ·exact b4 _
    ·split
     ·exact q7
     ·exact q8
    ·exact b4 _
 ·obtain ⟨r,hrw,rfl⟩:=List.mem_map.1 hw
  obtain ⟨hl,hh⟩:=r8 (hf r hrw)
  refine ⟨⟨by simp [O4],fun w hw=>?_⟩,by show ¬ L2 = Y6;decide⟩
  unfold O4 at hw
  rcases List.mem_cons.1 hw with rfl | hw
  ·exact q6
  ·obtain ⟨q,hq,rfl⟩:=List.mem_map.1 hw
   exact Sa hr (List.of_mem_zip hq).1 (hh q hq)
theorem Sb (L:List (List (List UInt8))):L.length ≤ (L.flatMap B7).length:=by
 induction L with
 | nil=>simp
 | cons w L ih =>
   have:1 ≤ (B7 w).length:=List.length_pos_iff.2 (d6 w)
   rw [List.flatMap_cons,List.length_append,List.length_cons]
   omega
theorem Ez (t:List UInt8):Kh (P6 t) ∧ H8 (Lib.itoa (M8 t)) = (M8 t,true):=by
 obtain ⟨b1,b2⟩:=FU t
 refine ⟨⟨by simp [P6],fun w hw=>?_⟩,Bv (by omega) (by omega)⟩
 simp only [P6,List.mem_cons,List.not_mem_nil,or_false] at hw
 rcases hw with rfl | rfl
 ·exact ⟨by decide,by decide,by decide⟩
 ·exact b4 _
theorem VE {s:B8} {rows:List (List Int)} {t:List UInt8} (h:L3 s rows = (t,0)):a8 t = ((s,rows),0,0):=by
 have h0:=h
 rw [BW] at h
 by_cases hc:¬ r9 s rows = 0
 ·rw [if_pos hc] at h
  simp only [Prod.mk.injEq] at h
  exact absurd h.2 hc
 rw [if_neg hc] at h
 obtain ⟨hr,_,hf,_⟩:=IF (Decidable.of_not_not hc)
 by_cases hl:20000 < (O5 s rows).length
 ·rw [if_pos hl] at h;cases h
 rw [if_neg hl] at h
 simp only [Prod.mk.injEq,and_true] at h
 obtain ⟨st,hrun⟩:=SZ hr hf
 have hg:=Ng hr hf
 have htx:=Ds s rows
 obtain ⟨g1,g2⟩:=Ez (F9 s rows)
 have hT:t = (k8 s rows).flatMap B7 ++ B7 (P6 (F9 s rows)):=by rw [← h,htx];rfl
 have hlen:(k8 s rows).length + 1 ≤ t.length:=by
  rw [hT,List.length_append]
  have:=Sb (k8 s rows)
  have:1 ≤ (B7 (P6 (F9 s rows))).length:=List.length_pos_iff.2 (d6 _)
  omega
 have key:M9 (t.length + 1) z3 1 [] t = (⟨s.lists,s.cols,rows,st⟩,0,0):=by
  obtain ⟨f,hf2⟩:∃ f,t.length + 1 = (f + 1) + (k8 s rows).length:=⟨t.length - (k8 s rows).length,by omega⟩
  rw [hf2,hT,KH _ z3 _ 1 [] (f + 1) _ hg hrun,List.nil_append,htx,M9]
  obtain ⟨h1,h2,h3,h4⟩:=KG g1 []
  rw [List.append_nil] at h1 h2
  rw [h1,h2,h3]
  have e0:B9 (P6 (F9 s rows)) 0 = Y6:=rfl
  have e1:B9 (P6 (F9 s rows)) 1 = Lib.itoa (M8 (F9 s rows)):=rfl
  rw [if_neg (by rintro (g | g);(exact absurd g (by simp));exact h4 g),if_pos e0,e1,g2,if_neg (by intro g;exact g ⟨rfl,rfl⟩),if_neg (fun g=>g rfl),if_neg (fun g=>g rfl)]
 unfold a8
 rw [if_neg (by rw [← h];exact hl),key]
 dsimp only
 rw [if_neg (fun g=>g rfl)]
 have hs:(⟨s.lists,s.cols⟩:B8) = s:=rfl
 rw [hs,h0,if_neg (fun g=>g rfl)]
end Go.Proofs.YtiphlhoclaogjabGreatDoor
