/- Chapter 8: a line is read as a question exactly if it is the question's text. -/
import Derived.Test.YthkklceofokkmaaGreatDoorBQw1
set_option linter.unusedVariables false
set_option linter.unnecessarySimpa false
set_option linter.unusedSimpArgs false
namespace Go.Proofs.YthkklceofokkmaaGreatDoor
open Go Go.Av
attribute [local irreducible] E5 B7 E6 E7 DQ E8 F0 St.le B3 B5
set_option maxRecDepth 100000
theorem LT (sep:List UInt8):∀ (a:List UInt8) (l:List (List UInt8)),P9 sep (a :: l) = a ++ l.flatMap (fun w=>sep ++ w)
 | a,[]=>by simp [P9]
 | a,b :: r=>by rw [P9,LT sep b r,List.flatMap_cons];simp only [List.append_assoc]
theorem Yg (c:UInt8) (t:List UInt8):AG [c] t = if t.dropWhile (B6 c) = [] then none else some (t.takeWhile (B6 c),(t.dropWhile (B6 c)).drop 1):=by
 by_cases h:t.dropWhile (B6 c) = []
 ·rw [if_pos h]
  have e:=Fo c t
  rw [h,List.append_nil] at e
  refine MI ?_
  rw [← e];exact QP c t
 ·rw [if_neg h]
  have e:=Fo c t
  rw [Fn h] at e
  have:=Gk (a:=c) (w:=[]) (y:=(t.dropWhile (B6 c)).drop 1) (QP c t)
  rw [show t.takeWhile (B6 c) ++ ([c] ++ (t.dropWhile (B6 c)).drop 1) = t from e] at this
  exact this
theorem QU (c:UInt8) (n:Nat) (t:List UInt8):(K8 [c] (n + 1) t).getD 0 [] = t.takeWhile (B6 c):=by
 rw [K8,Yg]
 by_cases h:t.dropWhile (B6 c) = []
 ·rw [if_pos h]
  have e:=Fo c t
  rw [h,List.append_nil] at e
  exact e.symm
 ·rw [if_neg h];rfl
theorem II (c:UInt8) (t:List UInt8):(E1 [c] t).getD 0 [] = t.takeWhile (B6 c):=by
 unfold E1
 cases t with
 | nil=>rfl
 | cons a r=>exact QU c r.length (a :: r)
theorem SM {c:UInt8}:∀ (ps:List (List UInt8)) (e:List UInt8),(∀ p ∈ ps,p.all (B6 c) = true) → K8 [c] ps.length (P9 [c] (ps ++ [e])) = ps ++ [e]
 | [],e,_=>rfl
 | p :: r,e,h=>by
   rw [List.cons_append,Cp _ _ (by simp),List.append_assoc,List.length_cons,K8,Gk (h p (by simp))]
   dsimp only
   rw [SM r e fun x hx=>h x (by simp [hx])]
theorem Gu {z:List UInt8} (h:(J7 z).2 = true):z = Lib.itoa (J7 z).1 ∧ J7 z = ((J7 z).1,true):=by
 refine ⟨?_,Prod.ext rfl h⟩
 unfold J7 at h ⊢
 cases ha:Lib.atoiAll z with
 | ok n=>rw [ha] at h;exact (of_decide_eq_true h).2.2.symm
 | range=>rw [ha] at h;cases h
 | _ =>rw [ha] at h;cases h
theorem dq (n:Int) (h0:0 ≤ n) (h1:n ≤ 100000000000000):(Lib.itoa n).length ≤ 15:=by
 obtain ⟨u,rfl⟩:∃ u:Nat,n = u:=⟨n.toNat,by omega⟩
 rw [Lib.itoa_nonneg,Lib.decDigits_length]
 have key:∀ (k u:Nat),u < 10 ^ (k + 1) → Lib.nDigits u ≤ k + 1:=fun k=>by
  induction k with
  | zero=>exact fun u h=>by rw [Lib.nDigits_small (by simpa using h)];exact Nat.le_refl _
  | succ k ih =>
    intro u h
    by_cases hu:u < 10
    ·rw [Lib.nDigits_small hu];omega
    ·rw [Lib.nDigits_big hu]
     have:=ih (u / 10) (by rw [Nat.pow_succ] at h;omega)
     omega
 exact key 14 u (by omega)
theorem Et {n:Int} (h0:0 ≤ n) (h1:n ≤ 100000000000000):J7 (Lib.itoa n) = (n,true):=by
 unfold J7
 rw [ND (by omega) h1]
 exact Prod.ext rfl (decide_eq_true ⟨dq n h0 h1,h0,rfl⟩)
def AN (s:B2) (c:Int):Prop:=0 ≤ c ∧ c < s.cols.length
def JN (s:B2) (d:Pk):Prop:=AN s d.col ∧ J7 (Lib.itoa d.lev) = (d.lev,true)
theorem bV {s:B2} {d:Pk} (h:SF s d):JN s d:=⟨h.1,Et h.2.1 (by omega)⟩
theorem MR {s:B2} (hr:C8 s = 0) {c:Int} (h:AN s c):J3 s (H7 s c) = c:=by
 obtain ⟨nm,h1,_,h3⟩:=dW hr h.1 h.2
 rw [h1];exact h3
theorem SN {s:B2} {w:List UInt8} (h:0 ≤ J3 s w):AN s (J3 s w) ∧ H7 s (J3 s w) = w:=by
 obtain ⟨h1,h2⟩:=NJ h
 refine ⟨⟨h,h2⟩,?_⟩
 unfold H7
 rw [if_neg (by omega)];exact h1
theorem QV {s:B2} (hr:C8 s = 0):∀ {l:List Int},(∀ c ∈ l,AN s c) → v6 s (l.map (H7 s)) = l ∧ BX s (l.map (H7 s)) = false
 | [],_=>⟨rfl,rfl⟩
 | c :: r,h=>by
   have hc:=h c (by simp)
   have h0:=hc.1
   obtain ⟨h1,h2⟩:=QV hr (l:=r) fun x hx=>h x (by simp [hx])
   rw [List.map_cons]
   refine ⟨?_,?_⟩
   ·rw [v6,MR hr hc,if_neg (by omega),h1]
   ·unfold BX at h2 ⊢
    rw [List.any_cons,MR hr hc,h2,decide_eq_false (by omega)];rfl
theorem QX {s:B2}:∀ {l:List (List UInt8)},BX s l = false → (v6 s l).map (H7 s) = l ∧ ∀ c ∈ v6 s l,AN s c
 | [],_=>⟨rfl,fun _ h=>by cases h⟩
 | w :: r,h=>by
   unfold BX at h
   rw [List.any_cons,Bool.or_eq_false_iff] at h
   have h0:=of_decide_eq_false h.1
   obtain ⟨h1,h2⟩:=QX (s:=s) (l:=r) h.2
   obtain ⟨f1,f2⟩:=SN (s:=s) (w:=w) (by omega)
   rw [v6,if_neg h0,List.map_cons,h1,f2]
   refine ⟨rfl,fun c hc=>?_⟩
   rcases List.mem_cons.1 hc with rfl | hc
   ·exact f1
   ·exact h2 c hc
theorem Eu {s:B2} (hr:C8 s = 0) {l:List Int} (h:∀ c ∈ l,AN s c) (hl:1 ≤ l.length):I9 s (l.map (H7 s)) = (l,true):=by
 obtain ⟨h1,h2⟩:=QV hr h
 unfold I9
 rw [h2,if_neg (by simp),h1,List.length_map,decide_eq_true (by omega)]
theorem NU {s:B2} {l:List (List UInt8)} (h:(I9 s l).2 = true):(I9 s l).1.map (H7 s) = l ∧ (∀ c ∈ (I9 s l).1,AN s c) ∧ 1 ≤ l.length:=by
 unfold I9 at h ⊢
 split at h
 ·cases h
 ·rename_i hb
  rw [if_neg hb]
  obtain ⟨h1,h2⟩:=QX (s:=s) (l:=l) (by simpa using hb)
  exact ⟨h1,h2,of_decide_eq_true h⟩
theorem Yh {s:B2} (hr:C8 s = 0) (c:Int):(H7 s c).all (B6 47) = true:=by
 have key:∀ l:List UInt8,l.all J5 = true → l.all (B6 47) = true:=fun l h=>by
  rw [List.all_eq_true] at h ⊢
  intro b hb
  have:=of_decide_eq_true (h b hb)
  unfold B6
  by_cases e:b = 47
  ·subst e;revert this;decide
  ·rw [decide_eq_false e];rfl
 unfold H7
 split
 ·rfl
 ·unfold R4 C6
  rw [List.getD_eq_getElem?_getD]
  cases hx:s.cols[c.toNat]? with
  | none=>rfl
  | some x=>exact key _ (CI (j3 hr hx).1).1
theorem bX {s:B2} (hr:C8 s = 0) {d:Pk} (h:JN s d):LK s (P6 s d) = d ∧ r8 s (P6 s d) = false:=by
 have e:P6 s d = H7 s d.col ++ 47 :: Lib.itoa d.lev:=by unfold P6;rw [List.append_assoc];rfl
 obtain ⟨t1,t2⟩:=IH (u:=Lib.itoa d.lev) (Yh hr d.col)
 have h0:=h.1.1
 unfold LK r8
 rw [e,t1,t2,MR hr h.1]
 show (⟨d.col,(J7 (Lib.itoa d.lev)).1⟩:Pk) = d ∧ (decide (d.col < 0) || !(J7 (Lib.itoa d.lev)).2) = false
 rw [h.2,decide_eq_false (by omega)]
 exact ⟨rfl,rfl⟩
theorem bY {s:B2} {w:List UInt8} (h:r8 s w = false):P6 s (LK s w) = w ∧ JN s (LK s w):=by
 unfold r8 at h
 rw [Bool.or_eq_false_iff] at h
 have h0:=of_decide_eq_false h.1
 obtain ⟨n1,n2⟩:=Gu (z:=(w.dropWhile (B6 47)).drop 1) (by simpa using h.2)
 obtain ⟨f1,f2⟩:=SN (s:=s) (w:=w.takeWhile (B6 47)) (by omega)
 have hd:w.dropWhile (B6 47) ≠ []:=fun e=>by
  rw [e] at n2
  exact absurd (congrArg Prod.snd n2) (by decide)
 have hc:=Fo 47 w
 rw [Fn hd] at hc
 unfold LK
 refine ⟨?_,f1,?_⟩
 ·unfold P6
  dsimp only
  rw [f2, ← n1,List.append_assoc]
  exact hc
 ·dsimp only
  rw [← n1];exact n2
theorem SO {s:B2} (hr:C8 s = 0):∀ {l:List Pk},(∀ d ∈ l,JN s d) → Z0 s (l.map (P6 s)) = l ∧ (l.map (P6 s)).any (r8 s) = false
 | [],_=>⟨rfl,rfl⟩
 | d :: r,h=>by
   obtain ⟨e1,e2⟩:=bX hr (h d (by simp))
   obtain ⟨h1,h2⟩:=SO hr (l:=r) fun x hx=>h x (by simp [hx])
   rw [List.map_cons]
   refine ⟨?_,?_⟩
   ·rw [Z0,e2,if_neg (by simp),e1,h1]
   ·rw [List.any_cons,e2,h2];rfl
theorem SP {s:B2}:∀ {l:List (List UInt8)},l.any (r8 s) = false → (Z0 s l).map (P6 s) = l ∧ (∀ d ∈ Z0 s l,JN s d) ∧ (Z0 s l).length = l.length
 | [],_=>⟨rfl,(fun _ h=>by cases h),rfl⟩
 | w :: r,h=>by
   rw [List.any_cons,Bool.or_eq_false_iff] at h
   obtain ⟨h1,h2,h3⟩:=SP (s:=s) (l:=r) h.2
   obtain ⟨f1,f2⟩:=bY h.1
   rw [Z0,if_neg (by rw [h.1];simp),List.map_cons,h1,f1,List.length_cons,h3]
   refine ⟨rfl,fun c hc=>?_,rfl⟩
   rcases List.mem_cons.1 hc with rfl | hc
   ·exact f2
   ·exact h2 c hc
structure Jq (s:B2) (q:D3):Prop where
 name:Q6 q.name = true
 no32:q.name.all (B6 32) = true
 flt:H0 s q.flt = 0
 kind:q.kind = 1 ∧ (1 ≤ q.dims.length ∧ q.dims.length ≤ 3 ∧ ∀ d ∈ q.dims,JN s d) ∧ (q.mea = -1 ∨ AN s q.mea) ∧ q.trms = [] ∧ q.evt = zX
  ∨ q.kind = 2 ∧ AN s q.mea ∧ (1 ≤ q.trms.length ∧ q.trms.length ≤ 3 ∧ ∀ c ∈ q.trms,AN s c) ∧ q.dims = [] ∧ q.evt = zX
  ∨ q.kind = 3 ∧ AN s q.mea ∧ H0 s q.evt = 0 ∧ q.dims = [] ∧ q.trms = []
def JO (q:D3):List UInt8:=if q.kind = 1 then Hu else if q.kind = 2 then Hv else Hw
def CP (s:B2) (q:D3):List (List UInt8) :=
 if q.kind = 1 then [q.name,Db] ++ q.dims.map (P6 s) ++ (if 0 ≤ q.mea then [u9,H7 s q.mea] else [])
 else if q.kind = 2 then [q.name,T5,H7 s q.mea,Es] ++ q.trms.map (H7 s)
 else [q.name,T5,H7 s q.mea,BW] ++ [D6 s q.evt]
theorem WD (s:B2) (q:D3):Fj s q = JO q ++ [32] ++ P9 [32] (CP s q):=by
 have e1:d7 s = fun d=>[32] ++ P6 s d:=by
  funext d;unfold d7 P6;simp only [List.append_assoc]
 have e2:p0 s = fun c=>[32] ++ H7 s c:=by
  funext c;unfold p0;rfl
 unfold Fj JO CP
 rw [e1,e2]
 split
 ·split <;> simp [LT,List.flatMap_map]
 split
 ·simp [LT,List.flatMap_map]
 ·simp [LT]
theorem dr (q:D3):(JO q).all (B6 32) = true:=by
 unfold JO
 split
 ·decide
 ·split <;> decide
structure gE (s:B2) (q:D3) (t:List UInt8):Prop where
 w:t.takeWhile (B6 32) = JO q
 r:H3 t = P9 [32] (CP s q) ++ J1 ++ D6 s q.flt
 i:H8 t = (P9 [32] (CP s q)).length
 a:E4 t = P9 [32] (CP s q)
 f:V1 s t = V0 s (D6 s q.flt)
theorem dt {s:B2} (hr:C8 s = 0) (q:D3):gE s q (K3 s q) ∧ (K3 s q).dropWhile (B6 32) ≠ []:=by
 have e:K3 s q = JO q ++ 32 :: (P9 [32] (CP s q) ++ J1 ++ D6 s q.flt):=by
  unfold K3
  rw [WD]
  simp only [List.append_assoc,List.cons_append,List.nil_append]
 obtain ⟨t1,t2⟩:=IH (u:=P9 [32] (CP s q) ++ J1 ++ D6 s q.flt) (dr q)
 have hr8:H3 (K3 s q) = P9 [32] (CP s q) ++ J1 ++ D6 s q.flt:=by
  unfold H3
  rw [e,t2];rfl
 have hw:H8 (K3 s q) = (P9 [32] (CP s q)).length:=by
  unfold H8
  rw [hr8,UB (WC hr q.flt)]
 refine ⟨⟨by rw [e,t1],hr8,hw,?_,?_⟩,by rw [e,t2];simp⟩
 ·unfold E4
  rw [hw,hr8,Int.toNat_natCast,List.append_assoc,List.take_left]
 ·unfold V1
  rw [hw,hr8,Int.toNat_natCast, ← List.drop_drop,List.append_assoc,List.drop_left]
  rfl
theorem Yi {s:B2} (hr:C8 s = 0) (d:Pk):(P6 s d).all (B6 32) = true:=by
 have h1:∀ c,(H7 s c).all (B6 32) = true:=fun c=>by
  unfold H7
  split
  ·rfl
  ·unfold R4 C6
   rw [List.getD_eq_getElem?_getD]
   cases hx:s.cols[c.toNat]? with
   | none=>rfl
   | some x=>exact LS (CI (j3 hr hx).1).1
 have h2:∀ n,(Lib.itoa n).all (B6 32) = true:=fun n=>by
  unfold Lib.itoa
  split
  ·obtain ⟨_,d2,_⟩:=u6 n.natAbs
   rw [List.all_cons,LS (by rw [List.all_eq_true] at d2 ⊢;exact fun c hc=>Ab (d2 c hc))]
   rfl
  ·obtain ⟨_,d2,_⟩:=u6 n.toNat
   exact LS (by rw [List.all_eq_true] at d2 ⊢;exact fun c hc=>Ab (d2 c hc))
 unfold P6
 rw [List.all_append,List.all_append,h1,h2];rfl
theorem Il {s:B2} (hr:C8 s = 0) (c:Int):(H7 s c).all (B6 32) = true:=by
 unfold H7
 split
 ·rfl
 ·unfold R4 C6
  rw [List.getD_eq_getElem?_getD]
  cases hx:s.cols[c.toNat]? with
  | none=>rfl
  | some x=>exact LS (CI (j3 hr hx).1).1
end Go.Proofs.YthkklceofokkmaaGreatDoor
namespace Go.Proofs.YthkklceofokkmaaGreatDoor
open Go Go.Av
attribute [local irreducible] E5 B7 E6 E7 DQ E8 F0 St.le B3 B5
set_option maxRecDepth 100000
theorem Jr (s:B2) (q:D3):∃ l,l ≠ [] ∧ CP s q = q.name :: l:=by
 unfold CP
 split
 ·exact ⟨_,by simp,rfl⟩
 split
 ·exact ⟨_,by simp,rfl⟩
 ·exact ⟨_,by simp,rfl⟩
theorem bZ {s:B2} {q:D3} (h:q.name.all (B6 32) = true):(P9 [32] (CP s q)).takeWhile (B6 32) = q.name:=by
 obtain ⟨l,h1,h2⟩:=Jr s q
 rw [h2,Cp _ _ h1,List.append_assoc]
 exact (IH (u:=P9 [32] l) h).1
theorem Yj (s:B2):r8 s u9 = true:=by
 unfold r8
 rw [show (u9.dropWhile (B6 47)).drop 1 = [] from rfl,show (J7 []).2 = false from rfl]
 simp
theorem Yk {s:B2} (hr:C8 s = 0) {nm:List UInt8} {ds:List Pk} {m:Int} (f:A4) (h1:1 ≤ ds.length ∧ ds.length ≤ 3 ∧ ∀ d ∈ ds,JN s d) (h2:m = -1 ∨ AN s m) :
  BZ s ([nm,Db] ++ ds.map (P6 s) ++ (if 0 ≤ m then [u9,H7 s m] else [])) ⟨nm,0,f,[],0,[],zX⟩ = (⟨nm,1,f,ds,m,[],zX⟩,true):=by
 obtain ⟨e1,e2⟩:=SO hr h1.2.2
 have hE:∀ m':Int,Gm s ⟨nm,0,f,[],0,[],zX⟩ m' (ds.map (P6 s)) = (⟨nm,1,f,ds,m',[],zX⟩,true):=fun m'=>by
  unfold Gm
  rw [e1,e2,List.length_map,decide_eq_true ⟨h1.1,h1.2.1⟩];rfl
 unfold BZ
 rcases h2 with h2 | h2
 ·subst h2
  rw [if_neg (show ¬ (0:Int) ≤ -1 by decide),List.append_nil]
  have hd:([nm,Db] ++ ds.map (P6 s)).drop 2 = ds.map (P6 s):=rfl
  rw [if_neg,hd,if_neg,hE]
  ·rintro ⟨g1,g2⟩
   have hm:E2 (ds.map (P6 s)) ((ds.map (P6 s)).length - 2) ∈ ds.map (P6 s):=by
    unfold E2
    rw [List.getD_eq_getElem?_getD,List.getElem?_eq_getElem (by omega),Option.getD_some]
    exact List.getElem_mem _
   rw [g2] at hm
   rw [List.any_eq_false] at e2
   exact e2 _ hm (Yj s)
  ·rintro (g | g)
   ·rw [List.length_append,List.length_map] at g
    have:([nm,Db]:List (List UInt8)).length = 2:=rfl
    omega
   ·exact g rfl
 ·have h0:=h2.1
  rw [if_pos h0]
  have hd:([nm,Db] ++ ds.map (P6 s) ++ [u9,H7 s m]).drop 2 = ds.map (P6 s) ++ [u9,H7 s m]:=rfl
  have hl:(ds.map (P6 s) ++ [u9,H7 s m]).length = ds.length + 2:=by rw [List.length_append,List.length_map];rfl
  have hc:=Eu hr (l:=[m]) (fun c hc=>by rw [List.mem_singleton.1 hc];exact h2) (by simp)
  rw [List.map_singleton] at hc
  have hdr:(ds.map (P6 s) ++ [u9,H7 s m]).drop (ds.length + 1) = [H7 s m]:=by
   rw [List.drop_append,List.length_map,List.drop_eq_nil_of_le (by rw [List.length_map];omega),show ds.length + 1 - ds.length = 1 by omega];rfl
  have htk:(ds.map (P6 s) ++ [u9,H7 s m]).take ds.length = ds.map (P6 s):=by
   rw [List.take_append,List.length_map,Nat.sub_self,List.take_zero,List.append_nil,List.take_of_length_le (by rw [List.length_map];omega)]
  have hw:E2 (ds.map (P6 s) ++ [u9,H7 s m]) ds.length = u9:=by
   unfold E2
   rw [List.getD_eq_getElem?_getD,List.getElem?_append_right (by rw [List.length_map];omega),List.length_map,Nat.sub_self];rfl
  rw [if_neg,hd,hl,show ds.length + 2 - 2 = ds.length by omega,show ds.length + 2 - 1 = ds.length + 1 by omega,if_pos ⟨by omega,hw⟩,hdr,htk,hc,if_neg (by simp)]
  ·exact hE m
  ·rintro (g | g)
   ·rw [List.length_append,List.length_append,List.length_map] at g
    have:([nm,Db]:List (List UInt8)).length = 2:=rfl
    omega
   ·exact g rfl
theorem Yl {s:B2} (hr:C8 s = 0) {nm:List UInt8} {ts:List Int} {m:Int} (f:A4) (h1:1 ≤ ts.length ∧ ts.length ≤ 3 ∧ ∀ c ∈ ts,AN s c) (h2:AN s m) :
  Ba s ([nm,T5,H7 s m,Es] ++ ts.map (H7 s)) ⟨nm,0,f,[],0,[],zX⟩ = (⟨nm,2,f,[],m,ts,zX⟩,true):=by
 have hc:=Eu hr (l:=[m]) (fun c hc=>by rw [List.mem_singleton.1 hc];exact h2) (by simp)
 rw [List.map_singleton] at hc
 have ht:=Eu hr h1.2.2 h1.1
 unfold Ba
 have e1:(([nm,T5,H7 s m,Es] ++ ts.map (H7 s)).take 3).drop 2 = [H7 s m]:=rfl
 have e2:([nm,T5,H7 s m,Es] ++ ts.map (H7 s)).drop 4 = ts.map (H7 s):=rfl
 rw [if_neg,e1,e2,hc,ht,if_neg]
 ·rfl
 ·rintro (g | g | g)
  ·cases g
  ·cases g
  ·have:=h1.2.1;dsimp only at g;omega
 ·rintro (g | g | g)
  ·rw [List.length_append,List.length_map] at g
   have:([nm,T5,H7 s m,Es]:List (List UInt8)).length = 4:=rfl
   omega
  ·exact g rfl
  ·exact g rfl
theorem Ym {s:B2} (hr:C8 s = 0) {nm:List UInt8} {m:Int} (f ev:A4) (hn:nm.all (B6 32) = true) (h1:H0 s ev = 0) (h2:AN s m) :
  Bb s (P9 [32] ([nm,T5,H7 s m,BW] ++ [D6 s ev])) ⟨nm,0,f,[],0,[],zX⟩ = (⟨nm,3,f,[],m,[],ev⟩,true):=by
 have hc:=Eu hr (l:=[m]) (fun c hc=>by rw [List.mem_singleton.1 hc];exact h2) (by simp)
 rw [List.map_singleton] at hc
 have hs:K8 [32] 4 (P9 [32] ([nm,T5,H7 s m,BW] ++ [D6 s ev])) = [nm,T5,H7 s m,BW] ++ [D6 s ev]:=SM [nm,T5,H7 s m,BW] _ fun p hp=>by
  simp only [List.mem_cons,List.not_mem_nil,or_false] at hp
  rcases hp with rfl | rfl | rfl | rfl
  ·exact hn
  ·decide
  ·exact Il hr m
  ·decide
 have hp:V0 s (D6 s ev) = (ev,0):=(Dx hr _ _).2 ⟨h1,rfl⟩
 have e1:(([nm,T5,H7 s m,BW] ++ [D6 s ev]).take 3).drop 2 = [H7 s m]:=rfl
 unfold Bb
 rw [hs,if_neg,e1,hc,if_neg (by simp),show E2 ([nm,T5,H7 s m,BW] ++ [D6 s ev]) 4 = D6 s ev from rfl,hp]
 ·rfl
 ·rintro (g | g | g) <;> exact g rfl
theorem Yn {s:B2} (hr:C8 s = 0) (d:F4) {q:D3} (h:Jq s q):DY s d (K3 s q) = (⟨d.prj,d.src,d.coh,d.part,d.of,d.seed,d.qs ++ [q]⟩,true):=by
 obtain ⟨⟨w,r,i,a,f⟩,hne⟩:=dt hr q
 have hf:V1 s (K3 s q) = (q.flt,0):=by rw [f];exact (Dx hr _ _).2 ⟨h.flt,rfl⟩
 have hn:E2 (E1 [32] (E4 (K3 s q))) 0 = q.name:=by unfold E2;rw [II,a,bZ h.no32]
 have hq:DN s (K3 s q) = ⟨q.name,0,q.flt,[],0,[],zX⟩:=by unfold DN;rw [hn,hf]
 unfold DY
 rw [if_neg (by rintro (g | g);exact hne g;omega),hf,hn,if_neg (by rw [h.name];simp)]
 have key:Hz s (K3 s q) = (q,true):=by
  unfold Hz
  rw [w,a,hq]
  obtain ⟨hn1,hn2,_,hk⟩:=h
  clear w r i a f hf hn hq hne
  obtain ⟨nm,k,fl,ds,m,ts,ev⟩:=q
  dsimp only at hk hn1 hn2 ⊢
  rcases hk with ⟨rfl,h1,h2,rfl,rfl⟩ | ⟨rfl,h1,h2,rfl,rfl⟩ | ⟨rfl,h1,h2,rfl,rfl⟩
  ·rw [show JO ⟨nm,1,fl,ds,m,[],zX⟩ = Hu from rfl,if_pos rfl]
   have hsp:E1 [32] (P9 [32] (CP s ⟨nm,1,fl,ds,m,[],zX⟩)) = CP s ⟨nm,1,fl,ds,m,[],zX⟩:=by
    refine MJ ?_ fun p hp=>?_
    ·obtain ⟨l,_,g⟩:=Jr s ⟨nm,1,fl,ds,m,[],zX⟩;rw [g];simp
    ·unfold CP at hp
     rw [if_pos rfl] at hp
     dsimp only at hp
     rcases List.mem_append.1 hp with hp | hp
     ·rcases List.mem_append.1 hp with hp | hp
      ·simp only [List.mem_cons,List.not_mem_nil,or_false] at hp
       rcases hp with rfl | rfl
       ·exact hn2
       ·decide
      ·obtain ⟨x,_,rfl⟩:=List.mem_map.1 hp
       exact Yi hr x
     ·split at hp
      ·simp only [List.mem_cons,List.not_mem_nil,or_false] at hp
       rcases hp with rfl | rfl
       ·decide
       ·exact Il hr m
      ·cases hp
   rw [hsp]
   exact Yk hr fl h1 h2
  ·rw [show JO ⟨nm,2,fl,[],m,ts,zX⟩ = Hv from rfl,if_neg (by decide),if_pos rfl]
   have hsp:E1 [32] (P9 [32] (CP s ⟨nm,2,fl,[],m,ts,zX⟩)) = CP s ⟨nm,2,fl,[],m,ts,zX⟩:=by
    refine MJ ?_ fun p hp=>?_
    ·obtain ⟨l,_,g⟩:=Jr s ⟨nm,2,fl,[],m,ts,zX⟩;rw [g];simp
    ·unfold CP at hp
     rw [if_neg (show ¬ (2:Int) = 1 by decide),if_pos rfl] at hp
     dsimp only at hp
     rcases List.mem_append.1 hp with hp | hp
     ·simp only [List.mem_cons,List.not_mem_nil,or_false] at hp
      rcases hp with rfl | rfl | rfl | rfl
      ·exact hn2
      ·decide
      ·exact Il hr m
      ·decide
     ·obtain ⟨x,_,rfl⟩:=List.mem_map.1 hp
      exact Il hr x
   rw [hsp]
   exact Yl hr fl h2 h1
  ·rw [show JO ⟨nm,3,fl,[],m,[],ev⟩ = Hw from rfl,if_neg (by decide),if_neg (by decide),if_pos rfl]
   exact Ym hr fl ev hn2 h2 h1
 rw [key]
end Go.Proofs.YthkklceofokkmaaGreatDoor
