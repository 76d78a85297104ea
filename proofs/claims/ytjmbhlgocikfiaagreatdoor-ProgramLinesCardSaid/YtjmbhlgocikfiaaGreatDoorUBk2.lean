/- Chapter 5: a condition that is printed is read; a text that is read is printed. -/
import Derived.Test.YtjmbhlgocikfiaaGreatDoorUNm1
import Derived.Test.YtjmbhlgocikfiaaGreatDoorUD2
import Derived.Test.YtjmbhlgocikfiaaGreatDoorUD1
set_option linter.unusedVariables false
set_option linter.unnecessarySimpa false
set_option linter.unusedSimpArgs false
namespace Go.Proofs.YtjmbhlgocikfiaaGreatDoor
open Go Go.Av
attribute [local irreducible] AWp AOps AAny MAny DQ retQ retG St.le FCall GCall
set_option maxRecDepth 100000
theorem idxP_spec {α:Type} (p:α → Bool):∀ (l:List α) (k:Int),0 ≤ k → idxP p l k = -1 ∨ ∃ (i:Nat) (x:α),l[i]? = some x ∧ p x = true ∧ idxP p l k = k + i
 | [],k,_=>.inl rfl
 | x :: r,k,hk=>by
  unfold idxP
  by_cases h:p x = true
  ·rw [if_pos h];exact .inr ⟨0,x,rfl,h,by omega⟩
  ·rw [if_neg h]
   rcases idxP_spec p r (k + 1) (by omega) with e | ⟨i,y,h1,h2,h3⟩
   ·exact .inl e
   ·exact .inr ⟨i + 1,y,by simpa using h1,h2,by omega⟩
theorem idxP_first {α:Type} {p:α → Bool}:∀ {l:List α} {k:Int} {i:Nat} {x:α},l[i]? = some x → p x = true → (∀ j y,j < i → l[j]? = some y → p y = false) → idxP p l k = k + i
 | [],k,i,x,h,_,_=>by simp at h
 | a :: r,k,0,x,h,hx,_=>by
  simp at h;subst h
  unfold idxP
  rw [if_pos hx];omega
 | a :: r,k,i + 1,x,h,hx,hj=>by
  have ha:=hj 0 a (by omega) rfl
  unfold idxP
  rw [if_neg (by rw [ha];exact Bool.false_ne_true),idxP_first (k:=k + 1) (by simpa using h) hx (fun j y hji hy=>hj (j + 1) y (by omega) (by simpa using hy))]
  omega
theorem idxF_eq:∀ (cs:List Code) (n:List UInt8) (k:Int),idxF cs n k = idxP (fun c:Code=>decide (c.name = n)) cs k
 | [],_,_=>rfl
 | c :: r,n,k=>by
  unfold idxF idxP fixB
  rw [idxF_eq r n (k + 1)]
theorem scan_dup:∀ (r pre:List Code),scan pre r = none → ∀ (i:Nat) (c:Code),r[i]? = some c → c.name ∉ pre.map (·.name) ∧ ∀ (j:Nat) (d:Code),j < i → r[j]? = some d → d.name ≠ c.name
 | [],_,_,i,c,hc=>by simp at hc
 | x :: r,pre,h,i,c,hc=>by
  unfold scan at h
  split at h
  ·cases h
  ·split at h
   ·cases h
   ·rename_i hn
    split at h
    ·cases h
    ·cases i with
     | zero =>
      simp at hc;subst hc
      exact ⟨hn,fun j d hj=>by omega⟩
     | succ i =>
      obtain ⟨h1,h2⟩:=scan_dup r _ h i c (by simpa using hc)
      rw [List.map_append,List.mem_append,not_or] at h1
      refine ⟨h1.1,fun j d hj hd e=>?_⟩
      cases j with
      | zero =>
       simp at hd;subst hd
       exact h1.2 (by simp [e])
      | succ j=>exact h2 j d (by omega) (by simpa using hd) e
theorem chk_scan0 {nm:List UInt8} {cs:List Code} (h:chk nm cs = 0):scan [] cs = none:=by
 unfold chk at h
 split at h
 ·cases h
 split at h
 ·cases h
 split at h
 ·cases h
 cases hs:scan [] cs with
 | some e =>
  rw [hs] at h
  dsimp only at h
  subst h
  exact absurd hs (scan_not0 cs [])
 | none=>rfl
theorem find_code {nm:List UInt8} {cs:List Code} (h:chk nm cs = 0) {i:Nat} {c:Code} (hc:cs[i]? = some c):findS nm cs c.name = i:=by
 unfold findS
 rw [if_pos h,idxF_eq]
 have:=idxP_first (p:=fun d:Code=>decide (d.name = c.name)) (k:=0) hc (decide_eq_true rfl) (fun j d hj hd=>decide_eq_false ((scan_dup cs [] (chk_scan0 h) i c hc).2 j d hj hd))
 omega
theorem find_name {nm:List UInt8} {cs:List Code} {n:List UInt8} (h:0 ≤ findS nm cs n):(cs.getD (findS nm cs n).toNat ⟨[],0⟩).name = n:=by
 unfold findS at h ⊢
 split at h
 ·rename_i h0
  rw [if_pos h0,idxF_eq] at *
  rcases idxP_spec (fun d:Code=>decide (d.name = n)) cs 0 (by omega) with e | ⟨i,x,h1,h2,h3⟩
  ·omega
  ·rw [h3,show (0 + (i:Int)).toNat = i by omega,List.getD_eq_getElem?_getD,h1]
   exact of_decide_eq_true h2
 ·omega
theorem col_parts {s:Sch} (hr:schE s = 0) {i:Nat} {c:Col} (hc:s.cols[i]? = some c):nameB c.name = true ∧ dupB s i c = false:=by
 have h:=(schE_parts hr).2.2.2.1 i c hc
 unfold colE at h
 split at h
 ·cases h
 ·rename_i h1
  split at h
  ·cases h
  ·rename_i h2
   exact ⟨by simpa using h1,by simpa using h2⟩
theorem find_col {s:Sch} (hr:schE s = 0) {i:Nat} {c:Col} (hc:s.cols[i]? = some c):findS2 s c.name = i:=by
 obtain ⟨_,hd⟩:=col_parts hr hc
 unfold dupB at hd
 rw [List.any_eq_false] at hd
 unfold findS2
 have:=idxP_first (p:=fun d:Col=>decide (d.name = c.name)) (k:=0) hc (decide_eq_true rfl) (fun j d hj hd'=>by
  have hm:d ∈ s.cols.take i:=List.mem_of_getElem? (by rw [List.getElem?_take_of_lt hj];exact hd')
  simpa using hd d hm)
 omega
theorem col_found {s:Sch} {n:List UInt8} (h:0 ≤ findS2 s n):colNm s (findS2 s n) = n ∧ findS2 s n < s.cols.length:=by
 unfold findS2 at h ⊢
 rcases idxP_spec (fun d:Col=>decide (d.name = n)) s.cols 0 (by omega) with e | ⟨i,x,h1,h2,h3⟩
 ·omega
 ·have hlt:=lt_of_get h1
  rw [h3]
  refine ⟨?_,by omega⟩
  unfold colNm
  rw [show (0 + (i:Int)) = (i:Int) by omega,colAt_get (by simpa using h1)]
  exact of_decide_eq_true h2
theorem name_w {n:List UInt8} (h:nameB n = true):n.all isW = true ∧ n ∉ words ∧ ∃ a r,n = a :: r ∧ 97 ≤ a.toNat ∧ a.toNat ≤ 122:=by
 unfold nameB at h
 simp only [Bool.and_eq_true,Bool.not_eq_true',decide_eq_false_iff_not] at h
 obtain ⟨⟨⟨_,h1⟩,h2⟩,h3⟩:=h
 refine ⟨h2,h3,?_⟩
 cases n with
 | nil=>cases h1
 | cons a r=>exact ⟨a,r,rfl,of_decide_eq_true h1⟩
theorem stops_sp (u:List UInt8):Stops (32 :: u):=fun b r e=>by cases e;rfl
theorem stops_cl (u:List UInt8):Stops (41 :: u):=fun b r e=>by cases e;rfl
theorem name_begin {n u:List UInt8} (h:nameB n = true) (hu:Stops u):cutS [40] (n ++ u) = (n ++ u,false) ∧ cutS bNot (n ++ u) = (n ++ u,false) ∧ (n ++ u).takeWhile isW = n ∧ (n ++ u).dropWhile isW = u ∧ n ≠ bAll:=by
 obtain ⟨h1,h2,a,r,rfl,h3,h4⟩:=name_w h
 obtain ⟨t1,t2⟩:=tw_app h1 hu
 refine ⟨cut_head (by intro e;rw [← e] at h3;exact absurd h3 (by decide)),cut_no fun hc=>?_,t1,t2,fun e=>h2 (by rw [e];decide)⟩
 have e:=cut_inv hc
 have ht:((a :: r) ++ u).takeWhile isW = [110,111,116]:=by
  rw [e]
  exact (tw_app (n:=[110,111,116]) (by decide) (stops_sp _)).1
 rw [t1] at ht
 exact h2 (by rw [ht];decide)
theorem kids_two {c:Cnd} (h:c.kids.length = 2):∃ x y,c.kids = [x,y]:=by
 match hk:c.kids,h with
 | [x,y],_=>exact ⟨x,y,rfl⟩
theorem kids_one {c:Cnd} (h:c.kids.length = 1):∃ x,c.kids = [x]:=by
 match hk:c.kids,h with
 | [x],_=>exact ⟨x,rfl⟩
theorem conE_zero {s:Sch} {c:Cnd} (h:conE s c = 0):(c.op ≠ 2 → c.op ≠ 3 → c.op ≠ 4 → c.col = 0) ∧ (c.op ≠ 2 → c.code = 0) ∧ (c.op ≠ 3 → c.lo = 0 ∧ c.hi = 0):=by
 unfold conE at h
 split at h
 ·cases h
 ·split at h
  ·cases h
  ·rename_i h2
   refine ⟨fun a b d=>?_,fun a=>?_,fun a=>?_⟩ <;> omega
theorem txt_two (s:Sch) (o:Int) (x y:Cnd) (w:List UInt8) (ho:o = 5 ∧ w = bAnd ∨ o = 6 ∧ w = bOr):txtS s (.mk o 0 0 0 0 [x,y]) = [40] ++ txtS s x ++ w ++ txtS s y ++ [41]:=by
 rcases ho with ⟨rfl,rfl⟩ | ⟨rfl,rfl⟩
 ·rw [txtS,if_neg (by decide),if_neg (by decide),if_neg (by decide),if_pos rfl,txtL_map];rfl
 ·rw [txtS,if_neg (by decide),if_neg (by decide),if_neg (by decide),if_neg (by decide),if_pos rfl,txtL_map];rfl
theorem txt_not (s:Sch) (x:Cnd):txtS s (.mk 7 0 0 0 0 [x]) = bNot ++ txtS s x:=by
 rw [txtS,if_neg (by decide),if_neg (by decide),if_neg (by decide),if_neg (by decide),if_neg (by decide),if_pos rfl,txtL_map];rfl
theorem txt_all (s:Sch):txtS s (.mk 1 0 0 0 0 []) = bAll:=by
 rw [txtS,if_neg (by decide),if_neg (by decide),if_neg (by decide),if_neg (by decide),if_neg (by decide),if_neg (by decide)]
theorem par_and {f:Int → List UInt8 → Rd4} {l l1 l2:Int} {t u v:List UInt8} {a b:Cnd} (h1:f l t = ⟨a,true,bAnd ++ u,l1⟩) (h2:f l1 u = ⟨b,true,41 :: v,l2⟩):parJ f l t = ⟨.mk 5 0 0 0 0 [a,b],true,v,l2⟩:=by
 have hc:cutS [41] (41 :: v) = (v,true):=cut_yes [41] v
 have hd:=cut_yes bAnd u
 unfold parJ
 simp only [h1,hd,h2,hc,if_true]
theorem par_or {f:Int → List UInt8 → Rd4} {l l1 l2:Int} {t u v:List UInt8} {a b:Cnd} (h1:f l t = ⟨a,true,bOr ++ u,l1⟩) (h2:f l1 u = ⟨b,true,41 :: v,l2⟩):parJ f l t = ⟨.mk 6 0 0 0 0 [a,b],true,v,l2⟩:=by
 have hc:cutS [41] (41 :: v) = (v,true):=cut_yes [41] v
 have hd:=cut_yes bOr u
 have he:cutS bAnd (bOr ++ u) = (bOr ++ u,false):=rfl
 unfold parJ
 simp only [h1,hd,he,h2,hc,if_true,Bool.false_eq_true,if_false]
set_option maxHeartbeats 2000000 in
theorem con_txt {s:Sch} (hr:schE s = 0) (c:Cnd):chkS s c = 0 → ∀ (d:Nat) (left:Int) (u:List UInt8),depS c ≤ d → (totS c:Int) ≤ left → Stops u → conP s d left (txtS s c ++ u) = ⟨c,true,u,left - totS c⟩:=by
 refine cnd_ind (p:=fun c=>chkS s c = 0 → ∀ (d:Nat) (left:Int) (u:List UInt8),depS c ≤ d → (totS c:Int) ≤ left → Stops u → conP s d left (txtS s c ++ u) = ⟨c,true,u,left - totS c⟩) (fun c ih h d left u hd hl hu=>?_) c
 obtain ⟨h1,h2⟩:=chkS_parts h
 obtain ⟨p1,p2,p3,p4,p5,p6⟩:=conE_parts h1
 obtain ⟨z1,z2,z3⟩:=conE_zero h1
 obtain ⟨k1,k2,k3⟩:=kidN_of c.op
 obtain ⟨d,rfl⟩:∃ e,d = e + 1:=⟨d - 1,by have:=depS_eq c;omega⟩
 have hl1:¬ left - 1 < 0:=by have:=totS_eq c;omega
 have htx:=txtS_eq s c
 by_cases ho:c.op = 2 ∨ c.op = 3 ∨ c.op = 4
 ·-- about a column
  have hk0:c.kids = []:=List.eq_nil_of_length_eq_zero (by have:=k3 (by omega) (by omega) (by omega);omega)
  have ht1:(totS c:Int) = 1:=by rw [totS_eq,hk0];rfl
  obtain ⟨x,hx,c1,c2,_⟩:=atom_col hr h1 ho
  have e:((c.col.toNat:Nat):Int) = c.col:=by omega
  obtain ⟨hnm,_⟩:=col_parts hr hx
  have hcn:colNm s c.col = x.name:=by unfold colNm;rw [colAt_get hx]
  have hfc:findS2 s x.name = c.col:=by rw [find_col hr hx];exact e
  have hca:colAt s c.col = x:=colAt_get hx
  rw [hcn] at htx
  have go:∀ v,Stops v → conP s (d + 1) left (x.name ++ v) = ⟨(atoP s c.col v).1,(atoP s c.col v).2.1,(atoP s c.col v).2.2,left - 1⟩:=by
   intro v hv
   obtain ⟨b1,b2,b3,b4,b5⟩:=name_begin hnm hv
   unfold conP
   rw [if_neg hl1,b1,if_neg Bool.false_ne_true,b2,if_neg Bool.false_ne_true,b3,if_neg b5,hfc,if_neg (by omega),b4]
  have fin:∀ v,Stops v → txtS s c ++ u = x.name ++ v → atoP s c.col v = (c,true,u) → conP s (d + 1) left (txtS s c ++ u) = ⟨c,true,u,left - totS c⟩:=fun v hv e he=>by
   rw [e,go v hv,he,ht1]
  by_cases o2:c.op = 2
  ·rw [if_pos o2] at htx
   refine fin (bUnder ++ (codNm s c.col c.code ++ u)) (stops_sp _) (by rw [htx];simp only [List.append_assoc]) ?_
   obtain ⟨q1,q2,q3⟩:=p4 o2
   rw [hca] at q1 q3
   have hlt:=RightS.lst hr (List.mem_of_getElem? hx) q1
   obtain ⟨lx,hlx⟩:∃ l,s.lists[x.lst.toNat]? = some l:=⟨_,List.getElem?_eq_getElem (by omega)⟩
   have hchk:chk lx.1 lx.2 = 0:=(schE_parts hr).2.2.1 _ (List.mem_of_getElem? hlx)
   rw [lstOf_get hlx] at q3
   obtain ⟨cd,hcd⟩:∃ cd,lx.2[c.code.toNat]? = some cd:=⟨_,List.getElem?_eq_getElem (by omega)⟩
   have hcn:codNm s c.col c.code = cd.name:=by
    unfold codNm
    rw [hca,lstOf_get hlx,List.getD_eq_getElem?_getD,hcd];rfl
   have hcnm:=chk_names hchk cd (List.mem_of_getElem? hcd)
   obtain ⟨t1,t2⟩:=tw_app (name_w hcnm).1 hu
   have hf:=find_code hchk hcd
   unfold atoP
   rw [cut_yes bUnder,hcn,if_pos rfl,hca,if_pos q1]
   dsimp only
   rw [t1,t2,lstOf_get hlx,hf,decide_eq_true (by omega)]
   obtain ⟨o,cl,k,lo,hi,ks⟩:=c
   dsimp only [Cnd.op,Cnd.col,Cnd.code,Cnd.lo,Cnd.hi,Cnd.kids] at *
   obtain ⟨rfl,rfl⟩:=z3 (by omega)
   subst o2 hk0
   rw [show ((k.toNat:Nat):Int) = k by omega]
  ·rw [if_neg o2] at htx
   by_cases o3:c.op = 3
   ·rw [if_pos o3] at htx
    refine fin (bFrom ++ (Lib.itoa c.lo ++ (bTo ++ (Lib.itoa c.hi ++ u)))) (stops_sp _) (by rw [htx];simp only [List.append_assoc]) ?_
    obtain ⟨q1,q2,q3,q4⟩:=p5 o3
    unfold atoP
    have e0:cutS bUnder (bFrom ++ (Lib.itoa c.lo ++ (bTo ++ (Lib.itoa c.hi ++ u)))) = (bFrom ++ (Lib.itoa c.lo ++ (bTo ++ (Lib.itoa c.hi ++ u))),false):=rfl
    rw [e0,if_neg Bool.false_ne_true,cut_yes bFrom,if_pos rfl]
    dsimp only
    rw [num_txt (n:=c.lo) (u:=bTo ++ (Lib.itoa c.hi ++ u)) (by omega) (by omega) (stops_sp _)]
    dsimp only
    rw [if_pos rfl,cut_yes bTo,if_pos rfl]
    dsimp only
    rw [num_txt (by omega) (by omega) hu]
    obtain ⟨o,cl,k,lo,hi,ks⟩:=c
    dsimp only [Cnd.op,Cnd.col,Cnd.code,Cnd.lo,Cnd.hi,Cnd.kids] at *
    obtain rfl:=z2 (by omega)
    subst o3 hk0
    rfl
   ·have o4:c.op = 4:=by omega
    rw [if_neg o3,if_pos o4] at htx
    refine fin (bMiss ++ u) (stops_sp _) (by rw [htx,List.append_assoc]) ?_
    unfold atoP
    have e0:cutS bUnder (bMiss ++ u) = (bMiss ++ u,false):=rfl
    have e1:cutS bFrom (bMiss ++ u) = (bMiss ++ u,false):=rfl
    rw [e0,if_neg Bool.false_ne_true,e1,if_neg Bool.false_ne_true,cut_yes bMiss,if_pos rfl]
    obtain ⟨o,cl,k,lo,hi,ks⟩:=c
    dsimp only [Cnd.op,Cnd.col,Cnd.code,Cnd.lo,Cnd.hi,Cnd.kids] at *
    obtain rfl:=z2 (by omega)
    obtain ⟨rfl,rfl⟩:=z3 (by omega)
    subst o4 hk0
    rfl
 ·clear htx
  have hz1:=z1 (by omega) (by omega) (by omega)
  have hz2:=z2 (by omega)
  obtain ⟨hz3,hz4⟩:=z3 (by omega)
  obtain ⟨o,cl,k,lo,hi,ks⟩:=c
  dsimp only [Cnd.op,Cnd.col,Cnd.code,Cnd.lo,Cnd.hi,Cnd.kids] at *
  subst hz1 hz2 hz3 hz4
  by_cases h56:o = 5 ∨ o = 6
  ·obtain ⟨x,y,rfl⟩:∃ x y,ks = [x,y]:=kids_two (c:=.mk o 0 0 0 0 ks) (by have:=k1 h56;show ks.length = 2;omega)
   have hx:=h2 x (by simp)
   have hy:=h2 y (by simp)
   obtain ⟨tt,td⟩:=tot_two o x y
   have e1:∀ w,cutS [40] ([40] ++ w) = (w,true):=fun w=>cut_yes [40] w
   have ix:=fun v hv=>ih x (by simp) hx d (left - 1) v (by omega) (by omega) hv
   have iy:=fun v hv=>ih y (by simp) hy d (left - 1 - totS x) v (by omega) (by omega) hv
   rcases h56 with rfl | rfl
   ·have htx:=txt_two s 5 x y bAnd (.inl ⟨rfl,rfl⟩)
    unfold conP
    rw [if_neg hl1,htx,show [40] ++ txtS s x ++ bAnd ++ txtS s y ++ [41] ++ u = [40] ++ (txtS s x ++ (bAnd ++ (txtS s y ++ (41 :: u)))) by simp,e1,if_pos rfl]
    rw [par_and (f:=fun l u=>conP s d l u) (ix (bAnd ++ (txtS s y ++ 41 :: u)) (stops_sp _)) (iy (41 :: u) (stops_cl _)),Rd4.mk.injEq]
    exact ⟨rfl,rfl,rfl,by omega⟩
   ·have htx:=txt_two s 6 x y bOr (.inr ⟨rfl,rfl⟩)
    unfold conP
    rw [if_neg hl1,htx,show [40] ++ txtS s x ++ bOr ++ txtS s y ++ [41] ++ u = [40] ++ (txtS s x ++ (bOr ++ (txtS s y ++ (41 :: u)))) by simp,e1,if_pos rfl]
    rw [par_or (f:=fun l u=>conP s d l u) (ix (bOr ++ (txtS s y ++ 41 :: u)) (stops_sp _)) (iy (41 :: u) (stops_cl _)),Rd4.mk.injEq]
    exact ⟨rfl,rfl,rfl,by omega⟩
  ·by_cases h7:o = 7
   ·obtain ⟨x,rfl⟩:∃ x,ks = [x]:=kids_one (c:=.mk o 0 0 0 0 ks) (by have:=k2 h7;show ks.length = 1;omega)
    have hx:=h2 x (by simp)
    obtain ⟨tt,td⟩:=tot_one o x
    subst h7
    have htx:=txt_not s x
    unfold conP
    rw [if_neg hl1,htx,show bNot ++ txtS s x ++ u = bNot ++ (txtS s x ++ u) by simp,show cutS [40] (bNot ++ (txtS s x ++ u)) = (bNot ++ (txtS s x ++ u),false) from rfl,if_neg Bool.false_ne_true,cut_yes bNot,if_pos rfl]
    dsimp only
    rw [ih x (by simp) hx d (left - 1) u (by omega) (by omega) hu,Rd4.mk.injEq]
    exact ⟨rfl,rfl,rfl,by dsimp only;omega⟩
   ·have h1':o = 1:=by omega
    have hk0:ks = []:=List.eq_nil_of_length_eq_zero (by have:=k3 (by omega) (by omega) h7;omega)
    subst h1' hk0
    have htx:=txt_all s
    unfold conP
    rw [if_neg hl1,htx]
    obtain ⟨t1,t2⟩:=tw_app (n:=bAll) (by decide) hu
    rw [show cutS [40] (bAll ++ u) = (bAll ++ u,false) from rfl,if_neg Bool.false_ne_true,show cutS bNot (bAll ++ u) = (bAll ++ u,false) from rfl,if_neg Bool.false_ne_true,t1,if_pos rfl,t2,Rd4.mk.injEq]
    exact ⟨rfl,rfl,rfl,rfl⟩
end Go.Proofs.YtjmbhlgocikfiaaGreatDoor
namespace Go.Proofs.YtjmbhlgocikfiaaGreatDoor
open Go Go.Av
attribute [local irreducible] AWp AOps AAny MAny DQ retQ retG St.le FCall GCall
set_option maxRecDepth 100000
theorem ato_inv {s:Sch} {col:Int} {t:List UInt8} (h:(atoP s col t).2.1 = true):colNm s col ++ t = txtS s (atoP s col t).1 ++ (atoP s col t).2.2:=by
 unfold atoP at h ⊢
 by_cases h1:(cutS bUnder t).2 = true
 ·rw [if_pos h1] at h ⊢
  by_cases hk:(colAt s col).kind = 2
  ·rw [if_pos hk] at h ⊢
   dsimp only at h ⊢
   have hf:=find_name (of_decide_eq_true h)
   rw [txtS,if_pos rfl,codNm,hf,List.append_assoc,List.append_assoc,tw_split, ← cut_inv h1]
  ·rw [if_neg hk] at h
   cases h
 ·rw [if_neg h1] at h ⊢
  by_cases h2:(cutS bFrom t).2 = true
  ·rw [if_pos h2] at h ⊢
   by_cases h3:(numS (cutS bFrom t).1).2.1 = true
   ·rw [if_pos h3] at h ⊢
    by_cases h4:(cutS bTo (numS (cutS bFrom t).1).2.2).2 = true
    ·rw [if_pos h4] at h ⊢
     dsimp only at h ⊢
     rw [txtS,if_neg (by decide),if_pos rfl,List.append_assoc,List.append_assoc,List.append_assoc,List.append_assoc, ← num_inv h, ← cut_inv h4, ← num_inv h3, ← cut_inv h2]
    ·rw [if_neg h4] at h
     cases h
   ·rw [if_neg h3] at h
    cases h
  ·rw [if_neg h2] at h ⊢
   by_cases h5:(cutS bMiss t).2 = true
   ·rw [if_pos h5] at h ⊢
    dsimp only at h ⊢
    rw [txtS,if_neg (by decide),if_neg (by decide),if_pos rfl,List.append_assoc, ← cut_inv h5]
   ·rw [if_neg h5] at h
    cases h
theorem par_inv {s:Sch} {f:Int → List UInt8 → Rd4} (hf:∀ l t,(f l t).ok = true → t = txtS s (f l t).c ++ (f l t).t) (left:Int) (t:List UInt8) (h:(parJ f left t).ok = true):[40] ++ t = txtS s (parJ f left t).c ++ (parJ f left t).t:=by
 unfold parJ at h ⊢
 by_cases h1:(f left t).ok = true
 ·rw [if_pos h1] at h ⊢
  have e1:=hf left t h1
  by_cases h2:(cutS bAnd (f left t).t).2 = true
  ·rw [if_pos h2] at h ⊢
   by_cases h3:(f (f left t).left (cutS bAnd (f left t).t).1).ok = true
   ·rw [if_pos h3] at h ⊢
    dsimp only at h ⊢
    have e2:=hf _ _ h3
    rw [txt_two s 5 _ _ bAnd (.inl ⟨rfl,rfl⟩)]
    simp only [List.append_assoc]
    rw [← cut_inv h, ← e2, ← cut_inv h2, ← e1]
   ·rw [if_neg h3] at h;cases h
  ·rw [if_neg h2] at h ⊢
   by_cases h4:(cutS bOr (f left t).t).2 = true
   ·rw [if_pos h4] at h ⊢
    by_cases h3:(f (f left t).left (cutS bOr (f left t).t).1).ok = true
    ·rw [if_pos h3] at h ⊢
     dsimp only at h ⊢
     have e2:=hf _ _ h3
     rw [txt_two s 6 _ _ bOr (.inr ⟨rfl,rfl⟩)]
     simp only [List.append_assoc]
     rw [← cut_inv h, ← e2, ← cut_inv h4, ← e1]
    ·rw [if_neg h3] at h;cases h
   ·rw [if_neg h4] at h;cases h
 ·rw [if_neg h1] at h;cases h
theorem con_inv (s:Sch):∀ (d:Nat) (left:Int) (t:List UInt8),(conP s d left t).ok = true → t = txtS s (conP s d left t).c ++ (conP s d left t).t
 | 0,left,t,h=>by unfold conP at h;cases h
 | d + 1,left,t,h=>by
  have ih:=con_inv s d
  unfold conP at h ⊢
  by_cases h1:left - 1 < 0
  ·rw [if_pos h1] at h;cases h
  rw [if_neg h1] at h ⊢
  by_cases h2:(cutS [40] t).2 = true
  ·rw [if_pos h2] at h ⊢
   have:=par_inv (s:=s) (f:=fun l u=>conP s d l u) ih (left - 1) _ h
   rw [← cut_inv h2] at this
   exact this
  rw [if_neg h2] at h ⊢
  by_cases h3:(cutS bNot t).2 = true
  ·rw [if_pos h3] at h ⊢
   dsimp only at h ⊢
   rw [txt_not,List.append_assoc, ← ih _ _ h, ← cut_inv h3]
  rw [if_neg h3] at h ⊢
  by_cases h4:t.takeWhile isW = bAll
  ·rw [if_pos h4] at h ⊢
   dsimp only at h ⊢
   rw [txt_all, ← h4,tw_split]
  rw [if_neg h4] at h ⊢
  by_cases h5:findS2 s (t.takeWhile isW) < 0
  ·rw [if_pos h5] at h;cases h
  rw [if_neg h5] at h ⊢
  dsimp only at h ⊢
  have:=ato_inv h
  rw [(col_found (by omega)).1,tw_split] at this
  exact this
end Go.Proofs.YtjmbhlgocikfiaaGreatDoor
