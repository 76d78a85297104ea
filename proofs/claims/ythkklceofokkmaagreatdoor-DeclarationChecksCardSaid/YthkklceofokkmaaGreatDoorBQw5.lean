/- Chapter 8: what is read as a question is its text. -/
import Derived.Test.YthkklceofokkmaaGreatDoorBQw3
set_option linter.unusedVariables false
set_option linter.unnecessarySimpa false
set_option linter.unusedSimpArgs false
namespace Go.Proofs.YthkklceofokkmaaGreatDoor
open Go Go.Av
attribute [local irreducible] E5 B7 E6 E7 DQ E8 F0 St.le B3 B5
set_option maxRecDepth 100000
theorem ba {s:B2} {l:List Int} {w:List UInt8} (h:l.map (H7 s) = [w]):∃ c,l = [c] ∧ H7 s c = w:=by
 match l,h with
 | [c],h=>exact ⟨c,rfl,(List.cons.inj h).1⟩
 | [],h=>cases h
 | a :: b :: r,h=>cases (List.cons.inj h).2
theorem Js {s:B2} {w:List UInt8} (h:(I9 s [w]).2 = true):AN s ((I9 s [w]).1.getD 0 0) ∧ H7 s ((I9 s [w]).1.getD 0 0) = w:=by
 obtain ⟨h1,h2,_⟩:=NU h
 obtain ⟨c,e,hc⟩:=ba h1
 rw [e] at h2 ⊢
 exact ⟨h2 c (by simp),hc⟩
theorem QY {s:B2} {q:D3} {m:Int} {l:List (List UInt8)} (h:(Gm s q m l).2 = true):(1 ≤ (Z0 s l).length ∧ (Z0 s l).length ≤ 3 ∧ ∀ d ∈ Z0 s l,JN s d) ∧ (Z0 s l).map (P6 s) = l:=by
 unfold Gm at h
 rw [Bool.and_eq_true] at h
 have h1:=of_decide_eq_true h.1
 obtain ⟨i1,i2,i3⟩:=SP (s:=s) (l:=l) (by simpa using h.2)
 exact ⟨⟨by omega,by omega,i2⟩,i1⟩
theorem Yo {s:B2} {w:List (List UInt8)} {q:D3} (h:(BZ s w q).2 = true) (hn:q.name = E2 w 0):∃ (ds:List Pk) (m:Int),(BZ s w q).1 = ⟨q.name,1,q.flt,ds,m,q.trms,q.evt⟩ ∧ w = [q.name,Db] ++ ds.map (P6 s) ++ (if 0 ≤ m then [u9,H7 s m] else []) ∧ (1 ≤ ds.length ∧ ds.length ≤ 3 ∧ ∀ d ∈ ds,JN s d) ∧ (m = -1 ∨ AN s m):=by
 unfold BZ at h ⊢
 by_cases h1:w.length < 3 ∨ ¬ E2 w 1 = Db
 ·rw [if_pos h1] at h;cases h
 rw [if_neg h1] at h ⊢
 have hw:w = [q.name,Db] ++ w.drop 2:=by
  match w,h1,hn with
  | a :: b :: r,h1,hn =>
    have e1:b = Db:=Decidable.of_not_not fun g=>h1 (.inr g)
    have e2:q.name = a:=hn
    rw [e1,e2];rfl
  | [a],h1,_=>exact absurd (.inl (by simp)) h1
  | [],h1,_=>exact absurd (.inl (by simp)) h1
 generalize hl:w.drop 2 = l at *
 by_cases h2:2 ≤ l.length ∧ E2 l (l.length - 2) = u9
 ·rw [if_pos h2] at h ⊢
  by_cases h3:(I9 s (l.drop (l.length - 1))).2 = false
  ·rw [if_pos h3] at h;cases h
  rw [if_neg h3] at h ⊢
  have h3':(I9 s (l.drop (l.length - 1))).2 = true:=by simpa using h3
  have el:l.drop (l.length - 1) = [l[l.length - 1]'(by omega)]:=by
   rw [List.drop_eq_getElem_cons (by omega),List.drop_eq_nil_of_le (by omega)]
  rw [el] at h3'
  obtain ⟨c1,c2⟩:=Js h3'
  rw [← el] at c1 c2
  obtain ⟨i1,i2⟩:=QY h
  refine ⟨_,_,rfl,?_,i1, .inr c1⟩
  rw [if_pos c1.1,c2,i2]
  refine hw.trans ?_
  have e2:l.drop (l.length - 2) = [u9,l[l.length - 1]'(by omega)]:=by
   have h4:=h2.2
   unfold E2 at h4
   rw [List.getD_eq_getElem?_getD,List.getElem?_eq_getElem (by omega),Option.getD_some] at h4
   rw [List.drop_eq_getElem_cons (by omega),h4,show l.length - 2 + 1 = l.length - 1 by omega,el]
  rw [List.append_assoc, ← e2,List.take_append_drop]
 ·rw [if_neg h2] at h ⊢
  obtain ⟨i1,i2⟩:=QY h
  refine ⟨_,_,rfl,?_,i1, .inl rfl⟩
  rw [if_neg (by decide),List.append_nil,i2]
  exact hw
theorem Yp {s:B2} {w:List (List UInt8)} {q:D3} (h:(Ba s w q).2 = true) (hn:q.name = E2 w 0):∃ (ts:List Int) (m:Int),(Ba s w q).1 = ⟨q.name,2,q.flt,q.dims,m,ts,q.evt⟩ ∧ w = [q.name,T5,H7 s m,Es] ++ ts.map (H7 s) ∧ (1 ≤ ts.length ∧ ts.length ≤ 3 ∧ ∀ c ∈ ts,AN s c) ∧ AN s m:=by
 unfold Ba at h ⊢
 by_cases h1:w.length < 5 ∨ ¬ E2 w 1 = T5 ∨ ¬ E2 w 3 = Es
 ·rw [if_pos h1] at h;cases h
 rw [if_neg h1] at h ⊢
 match w,h1,hn,h with
 | a :: b :: c :: d :: r,h1,hn,h =>
   have e1:b = T5:=Decidable.of_not_not fun g=>h1 (.inr (.inl g))
   have e2:d = Es:=Decidable.of_not_not fun g=>h1 (.inr (.inr g))
   have e3:q.name = a:=hn
   have t1:((a :: b :: c :: d :: r).take 3).drop 2 = [c]:=rfl
   have t2:(a :: b :: c :: d :: r).drop 4 = r:=rfl
   rw [t1,t2] at h ⊢
   by_cases h3:(I9 s [c]).2 = false ∨ (I9 s r).2 = false ∨ 3 < (I9 s r).1.length
   ·rw [if_pos h3] at h;cases h
   rw [if_neg h3]
   have g1:(I9 s [c]).2 = true:=by cases g:(I9 s [c]).2;exact absurd (.inl g) h3;rfl
   have g2:(I9 s r).2 = true:=by cases g:(I9 s r).2;exact absurd (.inr (.inl g)) h3;rfl
   obtain ⟨c1,c2⟩:=Js g1
   obtain ⟨r1,r2,r3⟩:=NU g2
   refine ⟨_,_,rfl,?_,⟨?_,by omega,r2⟩,c1⟩
   ·rw [c2,r1,e1,e2,e3];rfl
   ·have:=congrArg List.length r1
    rw [List.length_map] at this
    omega
 | [a,b,c],h1,_,_=>exact absurd (.inl (by simp)) h1
 | [a,b],h1,_,_=>exact absurd (.inl (by simp)) h1
 | [a],h1,_,_=>exact absurd (.inl (by simp)) h1
 | [],h1,_,_=>exact absurd (.inl (by simp)) h1
theorem Yq {s:B2} (hr:C8 s = 0) {t:List UInt8} {q:D3} (h:(Bb s t q).2 = true) (hn:q.name = t.takeWhile (B6 32)):∃ (ev:A4) (m:Int),(Bb s t q).1 = ⟨q.name,3,q.flt,q.dims,m,q.trms,ev⟩ ∧ t = P9 [32] ([q.name,T5,H7 s m,BW] ++ [D6 s ev]) ∧ H0 s ev = 0 ∧ AN s m:=by
 have hj:=Gj (w:=[32]) 4 t
 have hh:=QU 32 3 t
 unfold Bb at h ⊢
 generalize K8 [32] 4 t = w at *
 by_cases h1:¬ w.length = 5 ∨ ¬ E2 w 1 = T5 ∨ ¬ E2 w 3 = BW
 ·rw [if_pos h1] at h;cases h
 rw [if_neg h1] at h ⊢
 match w,h1,hj,hh,h with
 | [a,b,c,d,e],h1,hj,hh,h =>
   have e1:b = T5:=Decidable.of_not_not fun g=>h1 (.inr (.inl g))
   have e2:d = BW:=Decidable.of_not_not fun g=>h1 (.inr (.inr g))
   have e3:q.name = a:=hn.trans hh.symm
   have t1:(([a,b,c,d,e]:List (List UInt8)).take 3).drop 2 = [c]:=rfl
   have t2:E2 [a,b,c,d,e] 4 = e:=rfl
   rw [t1,t2] at h ⊢
   by_cases h3:(I9 s [c]).2 = false
   ·rw [if_pos h3] at h;cases h
   rw [if_neg h3] at h ⊢
   obtain ⟨c1,c2⟩:=Js (by simpa using h3)
   have hp:V0 s e = ((V0 s e).1,0):=Prod.ext rfl (of_decide_eq_true h)
   obtain ⟨p1,p2⟩:=(Dx hr _ _).1 hp
   refine ⟨_,_,rfl,?_,p1,c1⟩
   rw [c2, ← p2,e3, ← e1, ← e2]
   exact hj.symm
 | a :: b :: c :: d :: e :: f :: r,h1,_,_,_=>exact absurd (.inl (by simp)) h1
 | [a,b,c,d],h1,_,_,_=>exact absurd (.inl (by simp)) h1
 | [a,b,c],h1,_,_,_=>exact absurd (.inl (by simp)) h1
 | [a,b],h1,_,_,_=>exact absurd (.inl (by simp)) h1
 | [a],h1,_,_,_=>exact absurd (.inl (by simp)) h1
 | [],h1,_,_,_=>exact absurd (.inl (by simp)) h1
theorem Yr {s:B2} (hr:C8 s = 0) {t:List UInt8} (h:(Hz s t).2 = true):∃ q,(Hz s t).1 = q ∧ t.takeWhile (B6 32) = JO q ∧ E4 t = P9 [32] (CP s q) ∧ q.name = (DN s t).name ∧ q.flt = (DN s t).flt
  ∧ (q.kind = 1 ∧ (1 ≤ q.dims.length ∧ q.dims.length ≤ 3 ∧ ∀ d ∈ q.dims,JN s d) ∧ (q.mea = -1 ∨ AN s q.mea) ∧ q.trms = [] ∧ q.evt = zX
  ∨ q.kind = 2 ∧ AN s q.mea ∧ (1 ≤ q.trms.length ∧ q.trms.length ≤ 3 ∧ ∀ c ∈ q.trms,AN s c) ∧ q.dims = [] ∧ q.evt = zX
  ∨ q.kind = 3 ∧ AN s q.mea ∧ H0 s q.evt = 0 ∧ q.dims = [] ∧ q.trms = []):=by
 have hj:=Gj (w:=[32]) (E4 t).length (E4 t)
 have hj2:P9 [32] (E1 [32] (E4 t)) = E4 t:=hj
 unfold Hz at h ⊢
 by_cases k1:t.takeWhile (B6 32) = Hu
 ·rw [if_pos k1] at h ⊢
  obtain ⟨ds,m,e,hw,h1,h2⟩:=Yo h rfl
  refine ⟨_,e,k1,?_,rfl,rfl, .inl ⟨rfl,h1,h2,rfl,rfl⟩⟩
  rw [← hj2,hw];rfl
 rw [if_neg k1] at h ⊢
 by_cases k2:t.takeWhile (B6 32) = Hv
 ·rw [if_pos k2] at h ⊢
  obtain ⟨ts,m,e,hw,h1,h2⟩:=Yp h rfl
  refine ⟨_,e,k2,?_,rfl,rfl, .inr (.inl ⟨rfl,h2,h1,rfl,rfl⟩)⟩
  rw [← hj2,hw];rfl
 rw [if_neg k2] at h ⊢
 by_cases k3:t.takeWhile (B6 32) = Hw
 ·rw [if_pos k3] at h ⊢
  obtain ⟨ev,m,e,hw,h1,h2⟩:=Yq hr h (II 32 (E4 t))
  exact ⟨_,e,k3,hw,rfl,rfl, .inr (.inr ⟨rfl,h2,h1,rfl,rfl⟩)⟩
 ·rw [if_neg k3] at h;cases h
theorem Ys {s:B2} (hr:C8 s = 0) {d:F4} {t:List UInt8} (h:(DY s d t).2 = true):∃ q,Jq s q ∧ t = K3 s q ∧ (DY s d t).1 = ⟨d.prj,d.src,d.coh,d.part,d.of,d.seed,d.qs ++ [q]⟩:=by
 unfold DY at h ⊢
 by_cases h1:t.dropWhile (B6 32) = [] ∨ H8 t < 0
 ·rw [if_pos h1] at h;cases h
 rw [if_neg h1] at h ⊢
 by_cases h2:¬ (V1 s t).2 = 0 ∨ Q6 (E2 (E1 [32] (E4 t)) 0) = false
 ·rw [if_pos h2] at h;cases h
 rw [if_neg h2] at h ⊢
 obtain ⟨q,e,a1,a2,a3,a4,a5⟩:=Yr hr h
 have hf:V1 s t = ((V1 s t).1,0):=Prod.ext rfl (Decidable.of_not_not fun g=>h2 (.inl g))
 obtain ⟨f1,f2⟩:=(Dx hr _ _).1 hf
 have hname:q.name = E2 (E1 [32] (E4 t)) 0:=a3
 have hflt:q.flt = (V1 s t).1:=a4
 refine ⟨q,⟨?_,?_,by rw [hflt];exact f1,a5⟩,?_,by rw [e]⟩
 ·rw [hname]
  cases g:Q6 (E2 (E1 [32] (E4 t)) 0)
  ·exact absurd (.inr g) h2
  ·rfl
 ·rw [hname]
  unfold E2
  rw [II]
  exact QP 32 _
 ·have hl:=Yf (t:=H3 t) (Int.not_lt.1 fun g=>h1 (.inr g))
  have ht:=Fo 32 t
  rw [Fn fun g=>h1 (.inl g)] at ht
  unfold K3
  rw [WD, ← a1, ← a2,hflt, ← f2]
  refine ht.symm.trans ?_
  rw [show t.takeWhile (B6 32) ++ [32] ++ E4 t ++ J1 ++ (H3 t).drop ((H8 t).toNat + 7) = t.takeWhile (B6 32) ++ 32 :: (E4 t ++ J1 ++ (H3 t).drop ((H8 t).toNat + 7)) by simp only [List.append_assoc,List.cons_append,List.nil_append]]
  exact congrArg (fun z=>t.takeWhile (B6 32) ++ 32 :: z) hl
end Go.Proofs.YthkklceofokkmaaGreatDoor
namespace Go.Proofs.YthkklceofokkmaaGreatDoor
open Go Go.Av
attribute [local irreducible] E5 B7 E6 E7 DQ E8 F0 St.le B3 B5
set_option maxRecDepth 100000
theorem Gv {nm:List UInt8} (h:C9 nm = true):Q6 nm = true ∧ nm.all (B6 32) = true:=by
 obtain ⟨h1,h2,a,r,h3,_⟩:=CI h
 refine ⟨decide_eq_true ⟨by rw [h3];simp,fun e=>h2 (by rw [e];decide)⟩,LS h1⟩
structure Yt (s:B2) (d:F4):Prop where
 prj:Q6 d.prj = true ∧ d.prj.all (B6 32) = true
 src:Q6 d.src = true ∧ d.src.all (B6 32) = true
 coh:H0 s d.coh = 0
 num:J7 (Lib.itoa d.part) = (d.part,true) ∧ J7 (Lib.itoa d.of) = (d.of,true) ∧ J7 (Lib.itoa d.seed) = (d.seed,true)
theorem SQ {a b:List UInt8} (ha:a.all (B6 32) = true) (hb:b.all (B6 32) = true):E1 [32] (a ++ 32 :: b) = [a,b] :=
 Ai (by simp) (fun p hp=>by
  simp only [List.mem_cons,List.not_mem_nil,or_false] at hp
  rcases hp with rfl | rfl
  ·exact ha
  ·exact hb) (by simp [P9])
theorem SR {t:List UInt8} (h:¬ (¬ (E1 [32] t).length = 2 ∨ Q6 (E2 (E1 [32] t) 1) = false)):∃ a b,E1 [32] t = [a,b] ∧ t = a ++ 32 :: b ∧ Q6 b = true ∧ b.all (B6 32) = true:=by
 obtain ⟨_,n2,n3⟩:=Dy 32 t
 generalize E1 [32] t = ps at *
 match ps,h with
 | [a,b],h =>
   refine ⟨a,b,rfl,by rw [n3];simp [P9],?_,n2 b (by simp)⟩
   cases g:Q6 b
   ·exact absurd (.inr g) h
   ·rfl
 | [],h=>exact absurd (.inl (by simp)) h
 | [a],h=>exact absurd (.inl (by simp)) h
 | a :: b :: c :: r,h=>exact absurd (.inl (by simp)) h
theorem Yu {s:B2} (d:F4) {nm:List UInt8} (h:Q6 nm = true ∧ nm.all (B6 32) = true):L6 s d 1 (Gh ++ nm) = (⟨nm,d.src,d.coh,d.part,d.of,d.seed,d.qs⟩,true):=by
 have e:E1 [32] (Gh ++ nm) = [Px,nm]:=SQ (a:=Px) (by decide) h.2
 unfold L6
 rw [if_pos (.inl rfl),e,if_neg,if_pos rfl]
 ·rfl
 ·rintro (g | g)
  ·exact g rfl
  ·rw [show E2 [Px,nm] 1 = nm from rfl,h.1] at g;cases g
theorem Yv {s:B2} (d:F4) {nm:List UInt8} (h:Q6 nm = true ∧ nm.all (B6 32) = true):L6 s d 2 (ME ++ nm) = (⟨d.prj,nm,d.coh,d.part,d.of,d.seed,d.qs⟩,true):=by
 have e:E1 [32] (ME ++ nm) = [Py,nm]:=SQ (a:=Py) (by decide) h.2
 unfold L6
 rw [if_pos (.inr rfl),e,if_neg,if_neg (by decide)]
 ·rfl
 ·rintro (g | g)
  ·exact g rfl
  ·rw [show E2 [Py,nm] 1 = nm from rfl,h.1] at g;cases g
theorem Yw {s:B2} (hr:C8 s = 0) (d:F4) {c:A4} (h:H0 s c = 0):L6 s d 3 (BT ++ D6 s c) = (⟨d.prj,d.src,c,d.part,d.of,d.seed,d.qs⟩,true):=by
 have hp:V0 s (D6 s c) = (c,0):=(Dx hr _ _).2 ⟨h,rfl⟩
 unfold L6
 rw [if_neg (by decide),if_pos rfl,Z7,if_neg (by simp),hp]
 rfl
theorem Yx {s:B2} {d:F4} {t:List UInt8} (h:(L6 s d 1 t).2 = true):∃ nm,(Q6 nm = true ∧ nm.all (B6 32) = true) ∧ t = Gh ++ nm ∧ (L6 s d 1 t).1 = ⟨nm,d.src,d.coh,d.part,d.of,d.seed,d.qs⟩:=by
 unfold L6 at h ⊢
 rw [if_pos (.inl rfl)] at h ⊢
 by_cases h1:¬ (E1 [32] t).length = 2 ∨ Q6 (E2 (E1 [32] t) 1) = false
 ·rw [if_pos h1] at h;cases h
 rw [if_neg h1,if_pos rfl] at h ⊢
 obtain ⟨a,b,e,ht,hb⟩:=SR h1
 rw [e] at h ⊢
 have ha:a = Px:=of_decide_eq_true h
 refine ⟨b,hb,?_,rfl⟩
 rw [ht,ha];rfl
theorem Yy {s:B2} {d:F4} {t:List UInt8} (h:(L6 s d 2 t).2 = true):∃ nm,(Q6 nm = true ∧ nm.all (B6 32) = true) ∧ t = ME ++ nm ∧ (L6 s d 2 t).1 = ⟨d.prj,nm,d.coh,d.part,d.of,d.seed,d.qs⟩:=by
 unfold L6 at h ⊢
 rw [if_pos (.inr rfl)] at h ⊢
 by_cases h1:¬ (E1 [32] t).length = 2 ∨ Q6 (E2 (E1 [32] t) 1) = false
 ·rw [if_pos h1] at h;cases h
 rw [if_neg h1,if_neg (by decide)] at h ⊢
 obtain ⟨a,b,e,ht,hb⟩:=SR h1
 rw [e] at h ⊢
 have ha:a = Py:=of_decide_eq_true h
 refine ⟨b,hb,?_,rfl⟩
 rw [ht,ha];rfl
theorem Yz {s:B2} (hr:C8 s = 0) {d:F4} {t:List UInt8} (h:(L6 s d 3 t).2 = true):∃ c,H0 s c = 0 ∧ t = BT ++ D6 s c ∧ (L6 s d 3 t).1 = ⟨d.prj,d.src,c,d.part,d.of,d.seed,d.qs⟩:=by
 unfold L6 at h ⊢
 rw [if_neg (by decide),if_pos rfl] at h ⊢
 by_cases h1:(C7 BT t).2 = false
 ·rw [if_pos h1] at h;cases h
 rw [if_neg h1] at h ⊢
 have hp:V0 s (C7 BT t).1 = ((V0 s (C7 BT t).1).1,0):=Prod.ext rfl (of_decide_eq_true h)
 obtain ⟨p1,p2⟩:=(Dx hr _ _).1 hp
 refine ⟨_,p1,?_,rfl⟩
 rw [← p2]
 exact W5 (by simpa using h1)
theorem IJ (n:Int):(Lib.itoa n).all (B6 32) = true:=by
 unfold Lib.itoa
 split
 ·obtain ⟨_,d2,_⟩:=u6 n.natAbs
  rw [List.all_cons,LS (by rw [List.all_eq_true] at d2 ⊢;exact fun c hc=>Ab (d2 c hc))]
  rfl
 ·obtain ⟨_,d2,_⟩:=u6 n.toNat
  exact LS (by rw [List.all_eq_true] at d2 ⊢;exact fun c hc=>Ab (d2 c hc))
def FL (d:F4):List UInt8:=EU ++ Lib.itoa d.part ++ Y9 ++ Lib.itoa d.of ++ CJ ++ Lib.itoa d.seed
theorem UC (d:F4):E1 [32] (FL d) = [Hx,Lib.itoa d.part,T5,Lib.itoa d.of,Gl,Lib.itoa d.seed] :=
 Ai (by simp) (fun p hp=>by
  simp only [List.mem_cons,List.not_mem_nil,or_false] at hp
  rcases hp with rfl | rfl | rfl | rfl | rfl | rfl
  ·decide
  ·exact IJ _
  ·decide
  ·exact IJ _
  ·decide
  ·exact IJ _) (by unfold FL;simp [P9])
theorem ZA {s:B2} (d x:F4) (h:J7 (Lib.itoa x.part) = (x.part,true) ∧ J7 (Lib.itoa x.of) = (x.of,true) ∧ J7 (Lib.itoa x.seed) = (x.seed,true)):L6 s d 4 (FL x) = (⟨d.prj,d.src,d.coh,x.part,x.of,x.seed,d.qs⟩,true):=by
 unfold L6
 rw [if_neg (by decide),if_neg (by decide),UC,if_pos (show E2 [Hx,Lib.itoa x.part,T5,Lib.itoa x.of,Gl,Lib.itoa x.seed] 0 = Hx from rfl)]
 unfold Hy
 rw [if_neg]
 ·show (F4.mk d.prj d.src d.coh (J7 (Lib.itoa x.part)).1 (J7 (Lib.itoa x.of)).1 (J7 (Lib.itoa x.seed)).1 d.qs,(J7 (Lib.itoa x.part)).2 && (J7 (Lib.itoa x.of)).2 && (J7 (Lib.itoa x.seed)).2) = _
  rw [h.1,h.2.1,h.2.2];rfl
 ·rintro (g | g | g) <;> exact g rfl
theorem ZB {s:B2} {d:F4} {t:List UInt8} (h:(L6 s d 4 t).2 = true):∃ x:F4,(J7 (Lib.itoa x.part) = (x.part,true) ∧ J7 (Lib.itoa x.of) = (x.of,true) ∧ J7 (Lib.itoa x.seed) = (x.seed,true)) ∧ t = FL x ∧ (L6 s d 4 t).1 = ⟨d.prj,d.src,d.coh,x.part,x.of,x.seed,d.qs⟩:=by
 obtain ⟨_,n2,n3⟩:=Dy 32 t
 unfold L6 at h ⊢
 rw [if_neg (by decide),if_neg (by decide)] at h ⊢
 generalize E1 [32] t = w at *
 by_cases h1:¬ E2 w 0 = Hx
 ·rw [if_neg h1] at h;cases h
 have h1:=Decidable.of_not_not h1
 rw [if_pos h1] at h ⊢
 unfold Hy at h ⊢
 by_cases h2:¬ w.length = 6 ∨ ¬ E2 w 2 = T5 ∨ ¬ E2 w 4 = Gl
 ·rw [if_pos h2] at h;cases h
 rw [if_neg h2] at h ⊢
 have hl:w.length = 6:=Decidable.of_not_not fun g=>h2 (.inl g)
 match w,hl,h1,h2,h,n3 with
 | [a,b,c,e,f,g],_,h1,h2,h,n3 =>
   have e1:c = T5:=Decidable.of_not_not fun g=>h2 (.inr (.inl g))
   have e2:f = Gl:=Decidable.of_not_not fun g=>h2 (.inr (.inr g))
   have e0:a = Hx:=h1
   have h':((J7 b).2 && (J7 e).2 && (J7 g).2) = true:=h
   rw [Bool.and_eq_true,Bool.and_eq_true] at h'
   obtain ⟨⟨x1,x2⟩,x3⟩:=h'
   obtain ⟨y1,z1⟩:=Gu x1
   obtain ⟨y2,z2⟩:=Gu x2
   obtain ⟨y3,z3⟩:=Gu x3
   refine ⟨⟨[],[],zX,(J7 b).1,(J7 e).1,(J7 g).1,[]⟩,⟨?_,?_,?_⟩,?_,rfl⟩
   ·dsimp only;rw [← y1];exact z1
   ·dsimp only;rw [← y2];exact z2
   ·dsimp only;rw [← y3];exact z3
   ·unfold FL
    dsimp only
    rw [← y1, ← y2, ← y3,n3,e0,e1,e2]
    simp [P9]
theorem EW {s:B2} {f:Nat} {d:F4} {n:Nat} {L r:List UInt8} (h:L.all (B6 10) = true) (h2:(l6 s d n L).2 = true):Y6 s (f + 1) d n (L ++ 10 :: r) = Y6 s f (l6 s d n L).1 (n + 1) r:=by
 obtain ⟨t1,t2⟩:=IH (u:=r) h
 rw [Y6,if_neg (by cases L <;> simp),t1,t2,if_neg (by rw [h2];simp)];rfl
theorem Fp {s:B2} {f:Nat} {d e:F4} {n:Nat} {t:List UInt8} {k:Int} (h:Y6 s f d n t = (e,k,0)) :
  (t = [] ∧ 4 < n ∧ e = d ∧ U8 s d = 0) ∨ ∃ f' L r,f = f' + 1 ∧ t = L ++ 10 :: r ∧ (l6 s d n L).2 = true ∧ Y6 s f' (l6 s d n L).1 (n + 1) r = (e,k,0):=by
 cases f with
 | zero=>rw [Y6,Prod.mk.injEq,Prod.mk.injEq] at h;exact absurd h.2.2 (by decide)
 | succ f =>
   rw [Y6] at h
   by_cases h1:t = []
   ·rw [if_pos h1] at h
    by_cases h2:n ≤ 4
    ·rw [if_pos h2,Prod.mk.injEq,Prod.mk.injEq] at h;exact absurd h.2.2 (by decide)
    rw [if_neg h2] at h
    by_cases h3:U8 s d = 0
    ·rw [if_pos h3,Prod.mk.injEq] at h
     exact .inl ⟨h1,by omega,h.1.symm,h3⟩
    ·rw [if_neg h3,Prod.mk.injEq,Prod.mk.injEq] at h;exact absurd h.2.2 h3
   ·rw [if_neg h1] at h
    by_cases h2:t.dropWhile (B6 10) = [] ∨ (l6 s d n (t.takeWhile (B6 10))).2 = false
    ·rw [if_pos h2,Prod.mk.injEq,Prod.mk.injEq] at h;exact absurd h.2.2 (by decide)
    rw [if_neg h2] at h
    refine .inr ⟨f,_,_,rfl,?_,?_,h⟩
    ·have e:=Fo 10 t
     rw [Fn fun g=>h2 (.inl g)] at e
     exact e.symm
    ·cases g:(l6 s d n (t.takeWhile (B6 10))).2
     ·exact absurd (.inr g) h2
     ·rfl
theorem Bc (s:B2) (q:D3) (l:List D3):G5 s (q :: l) = K3 s q ++ 10 :: G5 s l:=by
 unfold G5
 rw [List.flatMap_cons,List.append_assoc];rfl
theorem Io (s:B2) (a b:List D3):G5 s (a ++ b) = G5 s a ++ G5 s b:=by unfold G5;rw [List.flatMap_append]
theorem Jt {s:B2} {d:F4} {n:Nat} {L:List UInt8} (h:5 ≤ n):l6 s d n L = DY s d L:=by unfold l6;rw [if_neg (by omega)]
theorem WE {s:B2} (hr:C8 s = 0) (w:List UInt8):∀ (l:List D3) (k:Nat) (d:F4) (n:Nat),5 ≤ n → (∀ q ∈ l,Jq s q ∧ (K3 s q).all (B6 10) = true) → Y6 s (k + l.length) d n (G5 s l ++ w) = Y6 s k ⟨d.prj,d.src,d.coh,d.part,d.of,d.seed,d.qs ++ l⟩ (n + l.length) w
 | [],k,d,n,_,_=>by simp [G5]
 | q :: l,k,d,n,hn,h=>by
   obtain ⟨h1,h2⟩:=h q (by simp)
   have e:=Yn hr d h1
   rw [List.length_cons, ← Nat.add_assoc,Bc,List.append_assoc,List.cons_append,EW h2 (by rw [Jt hn,e]),Jt hn,e,WE hr w l k _ (n + 1) (by omega) fun x hx=>h x (by simp [hx])]
   dsimp only
   rw [List.append_assoc,List.singleton_append,show n + 1 + l.length = n + (l.length + 1) by omega]
theorem LU {s:B2} (hr:C8 s = 0):∀ (f:Nat) (d e:F4) (n:Nat) (t:List UInt8) (k:Int),5 ≤ n → Y6 s f d n t = (e,k,0) → ∃ l,t = G5 s l ∧ e = ⟨d.prj,d.src,d.coh,d.part,d.of,d.seed,d.qs ++ l⟩ ∧ (∀ q ∈ l,Jq s q) ∧ U8 s e = 0
 | 0,d,e,n,t,k,hn,h=>by rw [Y6,Prod.mk.injEq,Prod.mk.injEq] at h;exact absurd h.2.2 (by decide)
 | f + 1,d,e,n,t,k,hn,h=>by
   rcases Fp h with ⟨h1,_,h3,h4⟩ | ⟨f',L,r,hf,ht,h2,h3⟩
   ·refine ⟨[],h1,?_,(fun _ g=>by cases g),by rw [h3];exact h4⟩
    rw [h3,List.append_nil]
   ·cases hf
    rw [Jt hn] at h2 h3
    obtain ⟨q,q1,q2,q3⟩:=Ys hr h2
    obtain ⟨l,l1,l2,l3,l4⟩:=LU hr f _ e (n + 1) r k (by omega) h3
    refine ⟨q :: l,?_,?_,fun x hx=>?_,l4⟩
    ·rw [Bc, ← q2, ← l1];exact ht
    ·rw [l2,q3]
     dsimp only
     rw [List.append_assoc];rfl
    ·rcases List.mem_cons.1 hx with rfl | hx
     ·exact q1
     ·exact l3 x hx
theorem WF (s:B2) (d:F4) (w:List UInt8):N6 s d ++ T4 d ++ w = (Gh ++ d.prj) ++ 10 :: ((ME ++ d.src) ++ 10 :: ((BT ++ D6 s d.coh) ++ 10 :: (FL d ++ 10 :: w))):=by
 unfold N6 T4 FL
 simp only [List.append_assoc,List.cons_append,List.nil_append]
theorem bb {s:B2} (hr:C8 s = 0) {d:F4} (h:Yt s d) (n1:d.prj.all (B6 10) = true) (n2:d.src.all (B6 10) = true) (k:Nat) (w:List UInt8):Y6 s (k + 4) zD 1 (N6 s d ++ T4 d ++ w) = Y6 s k ⟨d.prj,d.src,d.coh,d.part,d.of,d.seed,[]⟩ 5 w:=by
 have CY:DZ 10:=by unfold DZ;simp
 have l1:l6 s zD 1 (Gh ++ d.prj) = _:=Yu (s:=s) zD h.prj
 have l2:l6 s ⟨d.prj,zD.src,zD.coh,zD.part,zD.of,zD.seed,zD.qs⟩ (1 + 1) (ME ++ d.src) = _:=Yv (s:=s) _ h.src
 have l3:l6 s ⟨d.prj,d.src,zD.coh,zD.part,zD.of,zD.seed,zD.qs⟩ (1 + 1 + 1) (BT ++ D6 s d.coh) = _:=Yw hr _ h.coh
 have l4:l6 s ⟨d.prj,d.src,d.coh,zD.part,zD.of,zD.seed,zD.qs⟩ (1 + 1 + 1 + 1) (FL d) = _:=ZA (s:=s) _ d h.num
 have a1:(Gh ++ d.prj).all (B6 10) = true:=by rw [List.all_append,n1];rfl
 have a2:(ME ++ d.src).all (B6 10) = true:=by rw [List.all_append,n2];rfl
 have a3:(BT ++ D6 s d.coh).all (B6 10) = true:=by rw [List.all_append,Ik CY hr];rfl
 have a4:(FL d).all (B6 10) = true:=by unfold FL;simp only [List.all_append,Ij CY];rfl
 rw [WF,show k + 4 = k + 1 + 1 + 1 + 1 from rfl,EW a1 (by rw [l1]),l1,EW a2 (by rw [l2]),l2]
 dsimp only
 rw [EW a3 (by rw [l3]),l3]
 dsimp only
 rw [EW a4 (by rw [l4]),l4]
 rfl
theorem ZC {s:B2} {t:List UInt8} {d:F4} {n:Int} (h:l8 s t = (d,n,0)):C8 s = 0 ∧ t.length ≤ 20000 ∧ U8 s d = 0 ∧ Yt s d ∧ (∀ q ∈ d.qs,Jq s q) ∧ t = N7 s d:=by
 unfold l8 at h
 by_cases hr:¬ C8 s = 0
 ·rw [if_pos hr,Prod.mk.injEq,Prod.mk.injEq] at h;exact absurd h.2.2 hr
 rw [if_neg hr] at h
 have hr':C8 s = 0:=Decidable.of_not_not hr
 by_cases hl:20000 < t.length
 ·rw [if_pos hl,Prod.mk.injEq,Prod.mk.injEq] at h;exact absurd h.2.2 (by decide)
 rw [if_neg hl] at h
 rcases Fp h with ⟨_,g,_⟩ | ⟨f1,L1,r1,hf1,ht1,a1,h1⟩
 ·omega
 have a1':(L6 s zD 1 L1).2 = true:=a1
 obtain ⟨nm1,p1,q1,e1⟩:=Yx a1'
 rw [show (l6 s zD 1 L1).1 = _ from e1] at h1
 rcases Fp h1 with ⟨_,g,_⟩ | ⟨f2,L2,r2,hf2,ht2,a2,h2⟩
 ·omega
 have a2':(L6 s _ 2 L2).2 = true:=a2
 obtain ⟨nm2,p2,q2,e2⟩:=Yy a2'
 rw [show (l6 s _ (1 + 1) L2).1 = _ from e2] at h2
 rcases Fp h2 with ⟨_,g,_⟩ | ⟨f3,L3,r3,hf3,ht3,a3,h3⟩
 ·omega
 have a3':(L6 s _ 3 L3).2 = true:=a3
 obtain ⟨c,p3,q3,e3⟩:=Yz hr' a3'
 rw [show (l6 s _ (1 + 1 + 1) L3).1 = _ from e3] at h3
 rcases Fp h3 with ⟨_,g,_⟩ | ⟨f4,L4,r4,hf4,ht4,a4,h4⟩
 ·omega
 have a4':(L6 s _ 4 L4).2 = true:=a4
 obtain ⟨x,p4,q4,e4⟩:=ZB a4'
 rw [show (l6 s _ (1 + 1 + 1 + 1) L4).1 = _ from e4] at h4
 obtain ⟨l,l1,l2,l3,l4⟩:=LU hr' f4 _ d _ r4 n (by omega) h4
 dsimp only at l2
 have hz:zD.qs ++ l = l:=rfl
 rw [hz] at l2
 subst l2
 refine ⟨hr',by omega,l4,⟨p1,p2,p3,p4⟩,l3,?_⟩
 have:=WF s ⟨nm1,nm2,c,x.part,x.of,x.seed,l⟩ (G5 s l)
 unfold N7
 rw [this,ht1,ht2,ht3,ht4,q1,q2,q3,q4,l1]
 rfl
end Go.Proofs.YthkklceofokkmaaGreatDoor
