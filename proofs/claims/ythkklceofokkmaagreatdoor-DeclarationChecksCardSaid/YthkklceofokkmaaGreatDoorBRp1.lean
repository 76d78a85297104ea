/- Chapter 5: a condition that is printed is read; a text that is read is printed. -/
import Derived.Test.YthkklceofokkmaaGreatDoorBNm1
import Derived.Test.YthkklceofokkmaaGreatDoorBD2
import Derived.Test.YthkklceofokkmaaGreatDoorBD1
import Derived.Test.YthkklceofokkmaaGreatDoorBCm1
import Derived.Test.YthkklceofokkmaaGreatDoorBCd1
set_option linter.unusedVariables false
set_option linter.unnecessarySimpa false
set_option linter.unusedSimpArgs false
namespace Go.Proofs.YthkklceofokkmaaGreatDoor
open Go Go.Av
attribute [local irreducible] E5 B7 E6 E7 DQ E8 F0 St.le B3 B5
set_option maxRecDepth 100000
theorem Hq {α:Type} (p:α → Bool):∀ (l:List α) (k:Int),0 ≤ k → K2 p l k = -1 ∨ ∃ (i:Nat) (x:α),l[i]? = some x ∧ p x = true ∧ K2 p l k = k + i
 | [],k,_=>.inl rfl
 | x :: r,k,hk=>by
   unfold K2
   by_cases h:p x = true
   ·rw [if_pos h];exact .inr ⟨0,x,rfl,h,by omega⟩
   ·rw [if_neg h]
    rcases Hq p r (k + 1) (by omega) with e | ⟨i,y,h1,h2,h3⟩
    ·exact .inl e
    ·exact .inr ⟨i + 1,y,by simpa using h1,h2,by omega⟩
theorem Gg {α:Type} {p:α → Bool}:∀ {l:List α} {k:Int} {i:Nat} {x:α},l[i]? = some x → p x = true → (∀ j y,j < i → l[j]? = some y → p y = false) → K2 p l k = k + i
 | [],k,i,x,h,_,_=>by simp at h
 | a :: r,k,0,x,h,hx,_=>by
   simp at h;subst h
   unfold K2
   rw [if_pos hx];omega
 | a :: r,k,i + 1,x,h,hx,hj=>by
   have ha:=hj 0 a (by omega) rfl
   unfold K2
   rw [if_neg (by rw [ha];exact Bool.false_ne_true),Gg (k:=k + 1) (by simpa using h) hx (fun j y hji hy=>hj (j + 1) y (by omega) (by simpa using hy))]
   omega
theorem MA:∀ (cs:List Code) (n:List UInt8) (k:Int),GQ cs n k = K2 (fun c:Code=>decide (c.name = n)) cs k
 | [],_,_=>rfl
 | c :: r,n,k=>by
   unfold GQ K2 XV
   rw [MA r n (k + 1)]
theorem Pq:∀ (r pre:List Code),scan pre r = none → ∀ (i:Nat) (c:Code),r[i]? = some c → c.name ∉ pre.map (·.name) ∧ ∀ (j:Nat) (d:Code),j < i → r[j]? = some d → d.name ≠ c.name
 | [],_,_,i,c,hc=>by simp at hc
 | x :: r,pre,h,i,c,hc=>by
   unfold scan at h
   split at h
   ·cases h
   ·split at h
    ·cases h
    ·rename_i hn
     split at h
     ·cases h
     ·cases i with
      | zero =>
        simp at hc;subst hc
        exact ⟨hn,fun j d hj=>by omega⟩
      | succ i =>
        obtain ⟨h1,h2⟩:=Pq r _ h i c (by simpa using hc)
        rw [List.map_append,List.mem_append,not_or] at h1
        refine ⟨h1.1,fun j d hj hd e=>?_⟩
        cases j with
        | zero =>
          simp at hd;subst hd
          exact h1.2 (by simp [e])
        | succ j=>exact h2 j d (by omega) (by simpa using hd) e
theorem Vi {nm:List UInt8} {cs:List Code} (h:chk nm cs = 0):scan [] cs = none:=by
 unfold chk at h
 split at h
 ·cases h
 split at h
 ·cases h
 split at h
 ·cases h
 cases hs:scan [] cs with
 | some e =>
   rw [hs] at h
   dsimp only at h
   subst h
   exact absurd hs (Hn cs [])
 | none=>rfl
theorem Vj {nm:List UInt8} {cs:List Code} (h:chk nm cs = 0) {i:Nat} {c:Code} (hc:cs[i]? = some c):CE nm cs c.name = i:=by
 unfold CE
 rw [if_pos h,MA]
 have:=Gg (p:=fun d:Code=>decide (d.name = c.name)) (k:=0) hc (decide_eq_true rfl) (fun j d hj hd=>decide_eq_false ((Pq cs [] (Vi h) i c hc).2 j d hj hd))
 omega
theorem Vk {nm:List UInt8} {cs:List Code} {n:List UInt8} (h:0 ≤ CE nm cs n):(cs.getD (CE nm cs n).toNat ⟨[],0⟩).name = n:=by
 unfold CE at h ⊢
 split at h
 ·rename_i h0
  rw [if_pos h0,MA] at *
  rcases Hq (fun d:Code=>decide (d.name = n)) cs 0 (by omega) with e | ⟨i,x,h1,h2,h3⟩
  ·omega
  ·rw [h3,show (0 + (i:Int)).toNat = i by omega,List.getD_eq_getElem?_getD,h1]
   exact of_decide_eq_true h2
 ·omega
theorem j3 {s:B2} (hr:C8 s = 0) {i:Nat} {c:G9} (hc:s.cols[i]? = some c):C9 c.name = true ∧ DT s i c = false:=by
 have h:=(R3 hr).2.2.2.1 i c hc
 unfold colE at h
 split at h
 ·cases h
 ·rename_i h1
  split at h
  ·cases h
  ·rename_i h2
   exact ⟨by simpa using h1,by simpa using h2⟩
theorem Pr {s:B2} (hr:C8 s = 0) {i:Nat} {c:G9} (hc:s.cols[i]? = some c):J3 s c.name = i:=by
 obtain ⟨_,hd⟩:=j3 hr hc
 unfold DT at hd
 rw [List.any_eq_false] at hd
 unfold J3
 have:=Gg (p:=fun d:G9=>decide (d.name = c.name)) (k:=0) hc (decide_eq_true rfl) (fun j d hj hd'=>by
  have hm:d ∈ s.cols.take i:=List.mem_of_getElem? (by rw [List.getElem?_take_of_lt hj];exact hd')
  simpa using hd d hm)
 omega
theorem NJ {s:B2} {n:List UInt8} (h:0 ≤ J3 s n):R4 s (J3 s n) = n ∧ J3 s n < s.cols.length:=by
 unfold J3 at h ⊢
 rcases Hq (fun d:G9=>decide (d.name = n)) s.cols 0 (by omega) with e | ⟨i,x,h1,h2,h3⟩
 ·omega
 ·have hlt:=Q0 h1
  rw [h3]
  refine ⟨?_,by omega⟩
  unfold R4
  rw [show (0 + (i:Int)) = (i:Int) by omega,E0 (by simpa using h1)]
  exact of_decide_eq_true h2
theorem CI {n:List UInt8} (h:C9 n = true):n.all J5 = true ∧ n ∉ words ∧ ∃ a r,n = a :: r ∧ 97 ≤ a.toNat ∧ a.toNat ≤ 122:=by
 unfold C9 at h
 simp only [Bool.and_eq_true,Bool.not_eq_true',decide_eq_false_iff_not] at h
 obtain ⟨⟨⟨_,h1⟩,h2⟩,h3⟩:=h
 refine ⟨h2,h3,?_⟩
 cases n with
 | nil=>cases h1
 | cons a r=>exact ⟨a,r,rfl,of_decide_eq_true h1⟩
theorem BR (u:List UInt8):Ao (32 :: u):=fun b r e=>by cases e;rfl
theorem Ps (u:List UInt8):Ao (41 :: u):=fun b r e=>by cases e;rfl
theorem Vl:Ao []:=fun b r e=>by cases e
theorem Tn {n u:List UInt8} (h:C9 n = true) (hu:Ao u):C7 [40] (n ++ u) = (n ++ u,false) ∧ C7 d9 (n ++ u) = (n ++ u,false) ∧ (n ++ u).takeWhile J5 = n ∧ (n ++ u).dropWhile J5 = u ∧ n ≠ CG:=by
 obtain ⟨h1,h2,a,r,rfl,h3,h4⟩:=CI h
 obtain ⟨t1,t2⟩:=EQ h1 hu
 refine ⟨PS (by intro e;rw [← e] at h3;exact absurd h3 (by decide)),VV fun hc=>?_,t1,t2,fun e=>h2 (by rw [e];decide)⟩
 have e:=W5 hc
 have ht:((a :: r) ++ u).takeWhile J5 = [110,111,116]:=by
  rw [e]
  exact (EQ (n:=[110,111,116]) (by decide) (BR _)).1
 rw [t1] at ht
 exact h2 (by rw [ht];decide)
theorem Xz {c:A4} (h:c.kids.length = 2):∃ x y,c.kids = [x,y]:=by
 match hk:c.kids,h with
 | [x,y],_=>exact ⟨x,y,rfl⟩
theorem YA {c:A4} (h:c.kids.length = 1):∃ x,c.kids = [x]:=by
 match hk:c.kids,h with
 | [x],_=>exact ⟨x,rfl⟩
theorem Vm {s:B2} {c:A4} (h:K0 s c = 0):(c.op ≠ 2 → c.op ≠ 3 → c.op ≠ 4 → c.col = 0) ∧ (c.op ≠ 2 → c.code = 0) ∧ (c.op ≠ 3 → c.lo = 0 ∧ c.hi = 0):=by
 unfold K0 at h
 split at h
 ·cases h
 ·split at h
  ·cases h
  ·rename_i h2
   refine ⟨fun a b d=>?_,fun a=>?_,fun a=>?_⟩ <;> omega
theorem Ie (s:B2) (o:Int) (x y:A4) (w:List UInt8) (ho:o = 5 ∧ w = S9 ∨ o = 6 ∧ w = d6):D6 s (.mk o 0 0 0 0 [x,y]) = [40] ++ D6 s x ++ w ++ D6 s y ++ [41]:=by
 rcases ho with ⟨rfl,rfl⟩ | ⟨rfl,rfl⟩
 ·rw [D6,if_neg (by decide),if_neg (by decide),if_neg (by decide),if_pos rfl,EP];rfl
 ·rw [D6,if_neg (by decide),if_neg (by decide),if_neg (by decide),if_neg (by decide),if_pos rfl,EP];rfl
theorem SC (s:B2) (x:A4):D6 s (.mk 7 0 0 0 0 [x]) = d9 ++ D6 s x:=by
 rw [D6,if_neg (by decide),if_neg (by decide),if_neg (by decide),if_neg (by decide),if_neg (by decide),if_pos rfl,EP];rfl
theorem SD (s:B2):D6 s (.mk 1 0 0 0 0 []) = CG:=by
 rw [D6,if_neg (by decide),if_neg (by decide),if_neg (by decide),if_neg (by decide),if_neg (by decide),if_neg (by decide)]
theorem aw {f:Int → List UInt8 → Gz} {l l1 l2:Int} {t u v:List UInt8} {a b:A4} (h1:f l t = ⟨a,true,S9 ++ u,l1⟩) (h2:f l1 u = ⟨b,true,41 :: v,l2⟩):u4 f l t = ⟨.mk 5 0 0 0 0 [a,b],true,v,l2⟩:=by
 have hc:C7 [41] (41 :: v) = (v,true):=Z7 [41] v
 have hd:=Z7 S9 u
 unfold u4
 simp only [h1,hd,h2,hc,if_true]
theorem dS {f:Int → List UInt8 → Gz} {l l1 l2:Int} {t u v:List UInt8} {a b:A4} (h1:f l t = ⟨a,true,d6 ++ u,l1⟩) (h2:f l1 u = ⟨b,true,41 :: v,l2⟩):u4 f l t = ⟨.mk 6 0 0 0 0 [a,b],true,v,l2⟩:=by
 have hc:C7 [41] (41 :: v) = (v,true):=Z7 [41] v
 have hd:=Z7 d6 u
 have he:C7 S9 (d6 ++ u) = (d6 ++ u,false):=rfl
 unfold u4
 simp only [h1,hd,he,h2,hc,if_true,Bool.false_eq_true,if_false]
set_option maxHeartbeats 2000000 in
theorem az {s:B2} (hr:C8 s = 0) (c:A4):j9 s c = 0 → ∀ (d:Nat) (left:Int) (u:List UInt8),O8 c ≤ d → (I8 c:Int) ≤ left → Ao u → M3 s d left (D6 s c ++ u) = ⟨c,true,u,left - I8 c⟩:=by
 refine Q3 (p:=fun c=>j9 s c = 0 → ∀ (d:Nat) (left:Int) (u:List UInt8),O8 c ≤ d → (I8 c:Int) ≤ left → Ao u → M3 s d left (D6 s c ++ u) = ⟨c,true,u,left - I8 c⟩) (fun c ih h d left u hd hl hu=>?_) c
 obtain ⟨h1,h2⟩:=LA h
 obtain ⟨p1,p2,p3,p4,p5,p6⟩:=GY h1
 obtain ⟨z1,z2,z3⟩:=Vm h1
 obtain ⟨k1,k2,k3⟩:=Lt c.op
 obtain ⟨d,rfl⟩:∃ e,d = e + 1:=⟨d - 1,by have:=Dv c;omega⟩
 have hl1:¬ left - 1 < 0:=by have:=Bk c;omega
 have htx:=Fi s c
 by_cases ho:c.op = 2 ∨ c.op = 3 ∨ c.op = 4
 ·-- about a column
  have hk0:c.kids = []:=List.eq_nil_of_length_eq_zero (by have:=k3 (by omega) (by omega) (by omega);omega)
  have ht1:(I8 c:Int) = 1:=by rw [Bk,hk0];rfl
  obtain ⟨x,hx,c1,c2,_⟩:=Xv hr h1 ho
  have e:((c.col.toNat:Nat):Int) = c.col:=by omega
  obtain ⟨hnm,_⟩:=j3 hr hx
  have hcn:R4 s c.col = x.name:=by unfold R4;rw [E0 hx]
  have hfc:J3 s x.name = c.col:=by rw [Pr hr hx];exact e
  have hca:C6 s c.col = x:=E0 hx
  rw [hcn] at htx
  have go:∀ v,Ao v → M3 s (d + 1) left (x.name ++ v) = ⟨(k7 s c.col v).1,(k7 s c.col v).2.1,(k7 s c.col v).2.2,left - 1⟩:=by
   intro v hv
   obtain ⟨b1,b2,b3,b4,b5⟩:=Tn hnm hv
   unfold M3
   rw [if_neg hl1,b1,if_neg Bool.false_ne_true,b2,if_neg Bool.false_ne_true,b3,if_neg b5,hfc,if_neg (by omega),b4]
  have fin:∀ v,Ao v → D6 s c ++ u = x.name ++ v → k7 s c.col v = (c,true,u) → M3 s (d + 1) left (D6 s c ++ u) = ⟨c,true,u,left - I8 c⟩:=fun v hv e he=>by
   rw [e,go v hv,he,ht1]
  by_cases o2:c.op = 2
  ·rw [if_pos o2] at htx
   refine fin (U4 ++ (An s c.col c.code ++ u)) (BR _) (by rw [htx];simp only [List.append_assoc]) ?_
   obtain ⟨q1,q2,q3⟩:=p4 o2
   rw [hca] at q1 q3
   have hlt:=Aa.lst hr (List.mem_of_getElem? hx) q1
   obtain ⟨lx,hlx⟩:∃ l,s.lists[x.lst.toNat]? = some l:=⟨_,List.getElem?_eq_getElem (by omega)⟩
   have hchk:chk lx.1 lx.2 = 0:=(R3 hr).2.2.1 _ (List.mem_of_getElem? hlx)
   rw [Q1 hlx] at q3
   obtain ⟨cd,hcd⟩:∃ cd,lx.2[c.code.toNat]? = some cd:=⟨_,List.getElem?_eq_getElem (by omega)⟩
   have hcn:An s c.col c.code = cd.name:=by
    unfold An
    rw [hca,Q1 hlx,List.getD_eq_getElem?_getD,hcd];rfl
   have hcnm:=NI hchk cd (List.mem_of_getElem? hcd)
   obtain ⟨t1,t2⟩:=EQ (CI hcnm).1 hu
   have hf:=Vj hchk hcd
   unfold k7
   rw [Z7 U4,hcn,if_pos rfl,hca,if_pos q1]
   dsimp only
   rw [t1,t2,Q1 hlx,hf,decide_eq_true (by omega)]
   obtain ⟨o,cl,k,lo,hi,ks⟩:=c
   dsimp only [A4.op,A4.col,A4.code,A4.lo,A4.hi,A4.kids] at *
   obtain ⟨rfl,rfl⟩:=z3 (by omega)
   subst o2 hk0
   rw [show ((k.toNat:Nat):Int) = k by omega]
  ·rw [if_neg o2] at htx
   by_cases o3:c.op = 3
   ·rw [if_pos o3] at htx
    refine fin (P5 ++ (Lib.itoa c.lo ++ (CW ++ (Lib.itoa c.hi ++ u)))) (BR _) (by rw [htx];simp only [List.append_assoc]) ?_
    obtain ⟨q1,q2,q3,q4⟩:=p5 o3
    unfold k7
    have e0:C7 U4 (P5 ++ (Lib.itoa c.lo ++ (CW ++ (Lib.itoa c.hi ++ u)))) = (P5 ++ (Lib.itoa c.lo ++ (CW ++ (Lib.itoa c.hi ++ u))),false):=rfl
    rw [e0,if_neg Bool.false_ne_true,Z7 P5,if_pos rfl]
    dsimp only
    rw [Rz (n:=c.lo) (u:=CW ++ (Lib.itoa c.hi ++ u)) (by omega) (by omega) (BR _)]
    dsimp only
    rw [if_pos rfl,Z7 CW,if_pos rfl]
    dsimp only
    rw [Rz (by omega) (by omega) hu]
    obtain ⟨o,cl,k,lo,hi,ks⟩:=c
    dsimp only [A4.op,A4.col,A4.code,A4.lo,A4.hi,A4.kids] at *
    obtain rfl:=z2 (by omega)
    subst o3 hk0
    rfl
   ·have o4:c.op = 4:=by omega
    rw [if_neg o3,if_pos o4] at htx
    refine fin (m5 ++ u) (BR _) (by rw [htx,List.append_assoc]) ?_
    unfold k7
    have e0:C7 U4 (m5 ++ u) = (m5 ++ u,false):=rfl
    have e1:C7 P5 (m5 ++ u) = (m5 ++ u,false):=rfl
    rw [e0,if_neg Bool.false_ne_true,e1,if_neg Bool.false_ne_true,Z7 m5,if_pos rfl]
    obtain ⟨o,cl,k,lo,hi,ks⟩:=c
    dsimp only [A4.op,A4.col,A4.code,A4.lo,A4.hi,A4.kids] at *
    obtain rfl:=z2 (by omega)
    obtain ⟨rfl,rfl⟩:=z3 (by omega)
    subst o4 hk0
    rfl
 ·clear htx
  have hz1:=z1 (by omega) (by omega) (by omega)
  have hz2:=z2 (by omega)
  obtain ⟨hz3,hz4⟩:=z3 (by omega)
  obtain ⟨o,cl,k,lo,hi,ks⟩:=c
  dsimp only [A4.op,A4.col,A4.code,A4.lo,A4.hi,A4.kids] at *
  subst hz1 hz2 hz3 hz4
  by_cases h56:o = 5 ∨ o = 6
  ·obtain ⟨x,y,rfl⟩:∃ x y,ks = [x,y]:=Xz (c:=.mk o 0 0 0 0 ks) (by have:=k1 h56;show ks.length = 2;omega)
   have hx:=h2 x (by simp)
   have hy:=h2 y (by simp)
   obtain ⟨tt,td⟩:=ar o x y
   have e1:∀ w,C7 [40] ([40] ++ w) = (w,true):=fun w=>Z7 [40] w
   have ix:=fun v hv=>ih x (by simp) hx d (left - 1) v (by omega) (by omega) hv
   have iy:=fun v hv=>ih y (by simp) hy d (left - 1 - I8 x) v (by omega) (by omega) hv
   rcases h56 with rfl | rfl
   ·have htx:=Ie s 5 x y S9 (.inl ⟨rfl,rfl⟩)
    unfold M3
    rw [if_neg hl1,htx,show [40] ++ D6 s x ++ S9 ++ D6 s y ++ [41] ++ u = [40] ++ (D6 s x ++ (S9 ++ (D6 s y ++ (41 :: u)))) by simp,e1,if_pos rfl]
    rw [aw (f:=fun l u=>M3 s d l u) (ix (S9 ++ (D6 s y ++ 41 :: u)) (BR _)) (iy (41 :: u) (Ps _)),Gz.mk.injEq]
    exact ⟨rfl,rfl,rfl,by omega⟩
   ·have htx:=Ie s 6 x y d6 (.inr ⟨rfl,rfl⟩)
    unfold M3
    rw [if_neg hl1,htx,show [40] ++ D6 s x ++ d6 ++ D6 s y ++ [41] ++ u = [40] ++ (D6 s x ++ (d6 ++ (D6 s y ++ (41 :: u)))) by simp,e1,if_pos rfl]
    rw [dS (f:=fun l u=>M3 s d l u) (ix (d6 ++ (D6 s y ++ 41 :: u)) (BR _)) (iy (41 :: u) (Ps _)),Gz.mk.injEq]
    exact ⟨rfl,rfl,rfl,by omega⟩
  ·by_cases h7:o = 7
   ·obtain ⟨x,rfl⟩:∃ x,ks = [x]:=YA (c:=.mk o 0 0 0 0 ks) (by have:=k2 h7;show ks.length = 1;omega)
    have hx:=h2 x (by simp)
    obtain ⟨tt,td⟩:=au o x
    subst h7
    have htx:=SC s x
    unfold M3
    rw [if_neg hl1,htx,show d9 ++ D6 s x ++ u = d9 ++ (D6 s x ++ u) by simp,show C7 [40] (d9 ++ (D6 s x ++ u)) = (d9 ++ (D6 s x ++ u),false) from rfl,if_neg Bool.false_ne_true,Z7 d9,if_pos rfl]
    dsimp only
    rw [ih x (by simp) hx d (left - 1) u (by omega) (by omega) hu,Gz.mk.injEq]
    exact ⟨rfl,rfl,rfl,by dsimp only;omega⟩
   ·have h1':o = 1:=by omega
    have hk0:ks = []:=List.eq_nil_of_length_eq_zero (by have:=k3 (by omega) (by omega) h7;omega)
    subst h1' hk0
    have htx:=SD s
    unfold M3
    rw [if_neg hl1,htx]
    obtain ⟨t1,t2⟩:=EQ (n:=CG) (by decide) hu
    rw [show C7 [40] (CG ++ u) = (CG ++ u,false) from rfl,if_neg Bool.false_ne_true,show C7 d9 (CG ++ u) = (CG ++ u,false) from rfl,if_neg Bool.false_ne_true,t1,if_pos rfl,t2,Gz.mk.injEq]
    exact ⟨rfl,rfl,rfl,rfl⟩
end Go.Proofs.YthkklceofokkmaaGreatDoor
namespace Go.Proofs.YthkklceofokkmaaGreatDoor
open Go Go.Av
attribute [local irreducible] E5 B7 E6 E7 DQ E8 F0 St.le B3 B5
set_option maxRecDepth 100000
theorem bC {s:B2} {col:Int} {t:List UInt8} (h:(k7 s col t).2.1 = true):R4 s col ++ t = D6 s (k7 s col t).1 ++ (k7 s col t).2.2:=by
 unfold k7 at h ⊢
 by_cases h1:(C7 U4 t).2 = true
 ·rw [if_pos h1] at h ⊢
  by_cases hk:(C6 s col).kind = 2
  ·rw [if_pos hk] at h ⊢
   dsimp only at h ⊢
   have hf:=Vk (of_decide_eq_true h)
   rw [D6,if_pos rfl,An,hf,List.append_assoc,List.append_assoc,Gb, ← W5 h1]
  ·rw [if_neg hk] at h
   cases h
 ·rw [if_neg h1] at h ⊢
  by_cases h2:(C7 P5 t).2 = true
  ·rw [if_pos h2] at h ⊢
   by_cases h3:(Q5 (C7 P5 t).1).2.1 = true
   ·rw [if_pos h3] at h ⊢
    by_cases h4:(C7 CW (Q5 (C7 P5 t).1).2.2).2 = true
    ·rw [if_pos h4] at h ⊢
     dsimp only at h ⊢
     rw [D6,if_neg (by decide),if_pos rfl,List.append_assoc,List.append_assoc,List.append_assoc,List.append_assoc, ← SA h, ← W5 h4, ← SA h3, ← W5 h2]
    ·rw [if_neg h4] at h
     cases h
   ·rw [if_neg h3] at h
    cases h
  ·rw [if_neg h2] at h ⊢
   by_cases h5:(C7 m5 t).2 = true
   ·rw [if_pos h5] at h ⊢
    dsimp only at h ⊢
    rw [D6,if_neg (by decide),if_neg (by decide),if_pos rfl,List.append_assoc, ← W5 h5]
   ·rw [if_neg h5] at h
    cases h
theorem bD {s:B2} {f:Int → List UInt8 → Gz} (hf:∀ l t,(f l t).ok = true → t = D6 s (f l t).c ++ (f l t).t) (left:Int) (t:List UInt8) (h:(u4 f left t).ok = true):[40] ++ t = D6 s (u4 f left t).c ++ (u4 f left t).t:=by
 unfold u4 at h ⊢
 by_cases h1:(f left t).ok = true
 ·rw [if_pos h1] at h ⊢
  have e1:=hf left t h1
  by_cases h2:(C7 S9 (f left t).t).2 = true
  ·rw [if_pos h2] at h ⊢
   by_cases h3:(f (f left t).left (C7 S9 (f left t).t).1).ok = true
   ·rw [if_pos h3] at h ⊢
    dsimp only at h ⊢
    have e2:=hf _ _ h3
    rw [Ie s 5 _ _ S9 (.inl ⟨rfl,rfl⟩)]
    simp only [List.append_assoc]
    rw [← W5 h, ← e2, ← W5 h2, ← e1]
   ·rw [if_neg h3] at h;cases h
  ·rw [if_neg h2] at h ⊢
   by_cases h4:(C7 d6 (f left t).t).2 = true
   ·rw [if_pos h4] at h ⊢
    by_cases h3:(f (f left t).left (C7 d6 (f left t).t).1).ok = true
    ·rw [if_pos h3] at h ⊢
     dsimp only at h ⊢
     have e2:=hf _ _ h3
     rw [Ie s 6 _ _ d6 (.inr ⟨rfl,rfl⟩)]
     simp only [List.append_assoc]
     rw [← W5 h, ← e2, ← W5 h4, ← e1]
    ·rw [if_neg h3] at h;cases h
   ·rw [if_neg h4] at h;cases h
 ·rw [if_neg h1] at h;cases h
theorem SE (s:B2):∀ (d:Nat) (left:Int) (t:List UInt8),(M3 s d left t).ok = true → t = D6 s (M3 s d left t).c ++ (M3 s d left t).t
 | 0,left,t,h=>by unfold M3 at h;cases h
 | d + 1,left,t,h=>by
   have ih:=SE s d
   unfold M3 at h ⊢
   by_cases h1:left - 1 < 0
   ·rw [if_pos h1] at h;cases h
   rw [if_neg h1] at h ⊢
   by_cases h2:(C7 [40] t).2 = true
   ·rw [if_pos h2] at h ⊢
    have:=bD (s:=s) (f:=fun l u=>M3 s d l u) ih (left - 1) _ h
    rw [← W5 h2] at this
    exact this
   rw [if_neg h2] at h ⊢
   by_cases h3:(C7 d9 t).2 = true
   ·rw [if_pos h3] at h ⊢
    dsimp only at h ⊢
    rw [SC,List.append_assoc, ← ih _ _ h, ← W5 h3]
   rw [if_neg h3] at h ⊢
   by_cases h4:t.takeWhile J5 = CG
   ·rw [if_pos h4] at h ⊢
    dsimp only at h ⊢
    rw [SD, ← h4,Gb]
   rw [if_neg h4] at h ⊢
   by_cases h5:J3 s (t.takeWhile J5) < 0
   ·rw [if_pos h5] at h;cases h
   rw [if_neg h5] at h ⊢
   dsimp only at h ⊢
   have:=bC h
   rw [(NJ (by omega)).1,Gb] at this
   exact this
theorem Dx {s:B2} (hr:C8 s = 0) (t:List UInt8) (c:A4):V0 s t = (c,0) ↔ H0 s c = 0 ∧ t = D6 s c:=by
 unfold V0
 rw [if_pos hr]
 constructor
 ·intro h
  split at h
  ·rename_i hh
   obtain ⟨h1,h2,h3⟩:=hh
   have e:=SE s 10 40 t h1
   rw [Prod.mk.injEq] at h
   obtain ⟨rfl,_⟩:=h
   rw [h2,List.append_nil] at e
   exact ⟨h3,e⟩
  ·rw [Prod.mk.injEq] at h
   exact absurd h.2 (by decide)
 ·rintro ⟨h1,rfl⟩
  obtain ⟨_,h3,h4,h5⟩:=Dm h1
  have e:=az hr c h5 10 40 [] h4 (by omega) Vl
  rw [List.append_nil] at e
  rw [e,if_pos ⟨rfl,rfl,h1⟩]
end Go.Proofs.YthkklceofokkmaaGreatDoor
namespace Go.Proofs.YthkklceofokkmaaGreatDoor
open Go Go.Av
attribute [local irreducible] E5 B7 E6 E7 DQ E8 F0 St.le B3 B5
set_option maxRecDepth 100000
abbrev fa:List UInt8:=[59,32]
abbrev dT:List UInt8:=[44,32]
def zX:A4:=.mk 0 0 0 0 0 []
def fb (op:Int):List UInt8 :=
 if op = 3 then [99,111,117,110,116] else if op = 4 then [115,117,109] else if op = 5 then [109,101,97,110] else if op = 10 then [116,97,98,108,101] else if op = 11 then [109,111,100,101,108] else if op = 12 then [99,117,114,118,101] else if op = 13 then [104,105,115,116] else [98,111,120]
def fc (op:Int):List UInt8:=if op = 6 then [32,43,32] else if op = 7 then [32,45,32] else if op = 8 then [32,42,32] else [32,47,32]
def P9 (sep:List UInt8):List (List UInt8) → List UInt8
 | []=>[]
 | [x]=>x
 | x :: y :: r=>x ++ sep ++ P9 sep (y :: r)
def H7 (s:B2) (c:Int):List UInt8:=if c < 0 then [45] else R4 s c
def P6 (s:B2) (d:Pk):List UInt8:=H7 s d.col ++ [47] ++ Lib.itoa d.lev
def ff (s:B2) (o n c:Int) (cs:List Int) (ds:List Pk) (ev:A4):List (List UInt8) :=
 if o = 3 then [] else if o = 10 then [P9 dT (ds.map (P6 s)),H7 s c] else if o = 11 then [H7 s c,P9 dT (cs.map (H7 s))] else if o = 12 then [H7 s c,D6 s ev] else if o = 13 then [H7 s c,Lib.itoa n] else [H7 s c]
mutual
def fg (s:B2):O2 → List UInt8
 | .mk o n nm c cs ds cd ev ks =>
   if o = 1 then Lib.itoa n else if o = 2 then nm
   else if 6 ≤ o ∧ o ≤ 9 then [40] ++ (To s ks).getD 0 [] ++ fc o ++ (To s ks).getD 1 [] ++ [41]
   else fb o ++ [40] ++ P9 fa (ff s o n c cs ds ev ++ [D6 s cd]) ++ [41]
def To (s:B2):List O2 → List (List UInt8)
 | []=>[]
 | x :: r=>fg s x :: To s r
end
structure Mid where
 num:Int
 cols:List Int
 evt:A4
def B6 (c:UInt8) (b:UInt8):Bool:=!decide (b = c)
end Go.Proofs.YthkklceofokkmaaGreatDoor
namespace Go.Proofs.YthkklceofokkmaaGreatDoor
open Go Go.Av
attribute [local irreducible] E5 B7 E6 E7 DQ E8 F0 St.le B3 B5
set_option maxRecDepth 100000
theorem Cp (sep x:List UInt8) {l:List (List UInt8)} (h:l ≠ []):P9 sep (x :: l) = x ++ sep ++ P9 sep l:=by
 cases l with
 | nil=>exact absurd rfl h
 | cons y r=>rfl
end Go.Proofs.YthkklceofokkmaaGreatDoor
namespace Go.Proofs.YthkklceofokkmaaGreatDoor
open Go Go.Av
attribute [local irreducible] E5 B7 E6 E7 DQ E8 F0 St.le B3 B5
set_option maxRecDepth 100000
structure dU (s:B2) (e:O2):Prop where
 op:1 ≤ e.op ∧ e.op ≤ 14
 unu:dJ e
 par:Xd s e = true
 cnd:Tc e.op → H0 s e.cnd = 0
 evt:Td e.op → H0 s e.evt = 0
 pair:GF e.op → e.kids.length = 2
 kid:∀ k ∈ e.kids,Te k.op ∧ Tf s k = true
theorem dU.col {s:B2} {e:O2} (h:dU s e) (ho:Tb e.op):(e.op = 10 ∧ e.col = -1) ∨ d0 s e.col 3 = true:=by
 have hp:=h.par
 have hop:=h.op
 simp only [Tb] at ho
 unfold Xd at hp
 rw [if_neg (by omega),if_neg (by omega)] at hp
 by_cases h4:e.op = 4 ∨ e.op = 5 ∨ e.op = 14
 ·rw [if_pos h4] at hp;exact .inr hp
 rw [if_neg h4] at hp
 by_cases h10:e.op = 10
 ·rw [if_pos h10] at hp
  simp only [Bool.and_eq_true,Bool.or_eq_true] at hp
  rcases hp.2 with h | h
  ·exact .inl ⟨h10,of_decide_eq_true h⟩
  ·exact .inr h
 rw [if_neg h10] at hp
 by_cases h11:e.op = 11
 ·rw [if_pos h11] at hp
  simp only [Bool.and_eq_true] at hp
  exact .inr hp.1
 rw [if_neg h11] at hp
 by_cases h12:e.op = 12
 ·rw [if_pos h12] at hp
  simp only [Bool.and_eq_true] at hp
  exact .inr hp.1
 rw [if_neg h12,if_pos (by omega)] at hp
 simp only [Bool.and_eq_true] at hp
 exact .inr hp.1
end Go.Proofs.YthkklceofokkmaaGreatDoor
namespace Go.Proofs.YthkklceofokkmaaGreatDoor
open Go Go.Av
attribute [local irreducible] E5 B7 E6 E7 DQ E8 F0 St.le B3 B5
set_option maxRecDepth 100000
def dV (b:UInt8):Bool:=decide (b.toNat ≠ 32 ∧ b.toNat ≠ 40 ∧ b.toNat ≠ 41)
def Tp (l:List UInt8):Nat:=l.foldl (fun n b=>10 * n + (b.toNat - 48)) 0
theorem NK (l:List UInt8) (b:UInt8):Tp (l ++ [b]) = 10 * Tp l + (b.toNat - 48):=by
 unfold Tp;rw [List.foldl_append];rfl
theorem u6 (u:Nat):Tp (Lib.decDigits u) = u ∧ (Lib.decDigits u).all Ga = true ∧ 1 ≤ (Lib.decDigits u).length:=by
 induction u using Nat.strongRecOn with
 | ind u ih =>
   rw [Lib.decDigits]
   by_cases h1:u < 10
   ·rw [dif_pos h1]
    have e:=LE h1
    refine ⟨?_,?_,by simp⟩
    ·have:=NK [] (UInt8.ofNat (48 + u))
     rw [List.nil_append] at this
     rw [this,e]
     show 10 * 0 + (48 + u - 48) = u
     omega
    ·simp only [List.all_cons,List.all_nil,Bool.and_true,Ga,decide_eq_true_eq]
     omega
   ·rw [dif_neg h1]
    obtain ⟨i1,i2,i3⟩:=ih (u / 10) (by omega)
    have hd:u % 10 < 10:=by omega
    have e:=LE hd
    refine ⟨?_,?_,by simp⟩
    ·rw [NK,i1,e];omega
    ·rw [List.all_append,i2]
     simp only [List.all_cons,List.all_nil,Bool.and_true,Bool.true_and,Ga,decide_eq_true_eq]
     omega
def Zi (u:List UInt8):Prop:=∀ b r,u = b :: r → dV b = false
theorem ez {b:UInt8} (h:J5 b = true):dV b = true:=by
 unfold J5 at h
 unfold dV
 have:=of_decide_eq_true h
 exact decide_eq_true (by omega)
theorem Zi.stops {u:List UInt8} (h:Zi u):Ao u:=fun b r e=>by
 have h1:=h b r e
 cases hw:J5 b
 ·rfl
 ·rw [ez hw] at h1;cases h1
end Go.Proofs.YthkklceofokkmaaGreatDoor
