/- Chapter 17: drawn expressions are right; less than what is needed does not do. -/
import Derived.Test.YthkklceofokkmaaGreatDoorBF6
import Derived.Test.YthkklceofokkmaaGreatDoorBCm1
set_option linter.unusedVariables false
set_option linter.unnecessarySimpa false
set_option linter.unusedSimpArgs false
namespace Go.Proofs.YthkklceofokkmaaGreatDoor
open Go Go.Av
attribute [local irreducible] E5 B7 E6 E7 DQ E8 F0 St.le B3 B5
set_option maxRecDepth 100000
theorem MK:∀ (l:List Nat) (lo hi:Nat),List.Pairwise (fun a b:Nat=>a < b) l → (∀ x ∈ l,lo ≤ x ∧ x < hi) → lo ≤ hi → l.length ≤ hi - lo
 | [],_,_,_,_,_=>Nat.zero_le _
 | x :: r,lo,hi,hp,hm,_=>by
   obtain ⟨h1,h2⟩:=hm x (by simp)
   have:=MK r (x + 1) hi (List.pairwise_cons.1 hp).2 (fun y hy=>⟨(List.pairwise_cons.1 hp).1 y hy,(hm y (by simp [hy])).2⟩) h2
   rw [List.length_cons];omega
theorem DP (s:B2) (kind:Int) (k:Nat):List.Pairwise (fun a b:Nat=>a < b) (H2 s kind k):=List.Pairwise.filter _ List.pairwise_lt_range
theorem F6.cnt {s:B2} (hd:F6 s):(H2 s 2 s.cols.length).length ≤ 3 ∧ (H2 s 3 s.cols.length).length ≤ 3:=by
 obtain ⟨b,ms,h1,h2,h3,h4⟩:=hd.cs
 have hb:(O3 b).length ≤ 3:=by cases b <;> decide
 have hl:s.cols.length = (O3 b).length + ms.length:=by rw [h1,List.length_append]
 have key:∀ i,i < s.cols.length → (i < (O3 b).length ∧ (C6 s i).kind ≠ 3) ∨ ((O3 b).length ≤ i ∧ (C6 s i).kind = 3):=by
  intro i hi
  have hg:s.cols[i]? = some (s.cols[i]'hi):=List.getElem?_eq_getElem hi
  rw [show C6 s (i:Int) = s.cols[i]'hi from E0 (by simpa using hg)]
  generalize s.cols[i]'hi = c at *
  rw [h1,List.getElem?_append] at hg
  split at hg
  ·rename_i h5
   refine .inl ⟨h5,?_⟩
   have hm:=List.mem_of_getElem? hg
   cases b
   ·have hm:c ∈ [Lu,FE]:=hm
    simp only [List.mem_cons,List.not_mem_nil,or_false] at hm
    rcases hm with rfl | rfl <;> decide
   ·have hm:c ∈ [Lu,FE,Lv]:=hm
    simp only [List.mem_cons,List.not_mem_nil,or_false] at hm
    rcases hm with rfl | rfl | rfl <;> decide
  ·rename_i h5
   exact .inr ⟨by omega,(h4 _ c hg).kind⟩
 constructor
 ·have:=MK (H2 s 2 s.cols.length) 0 (O3 b).length (DP s 2 _) (fun x hx=>by
   obtain ⟨p1,p2⟩:=i8.1 hx
   rcases key x p1 with h | h
   ·exact ⟨Nat.zero_le _,h.1⟩
   ·rw [p2] at h;exact absurd h.2 (by decide)) (by omega)
  omega
 ·have:=MK (H2 s 3 s.cols.length) (O3 b).length s.cols.length (DP s 3 _) (fun x hx=>by
   obtain ⟨p1,p2⟩:=i8.1 hx
   rcases key x p1 with h | h
   ·exact absurd p2 h.2
   ·exact ⟨h.1,p1⟩) (by omega)
  omega
theorem da (l:List UInt8) (a:Nat) {s:B2} (hd:F6 s) {c:Nat} (h:c ∈ H2 s 2 s.cols.length):Fc s ⟨c,(B9 l a (I3 s c + 1)).1⟩ = 0:=by
 obtain ⟨h1,h2⟩:=i8.1 h
 have hf:=QB hd h
 have hlt:=I0 l a (n:=I3 s c + 1) (by omega)
 have hc:1 ≤ (c:Int):=by
  rcases Nat.eq_zero_or_pos c with hz | hz
  ·exfalso
   subst hz
   have hc:s.cols[0]? = some (s.cols[0]'h1):=List.getElem?_eq_getElem h1
   rw [show C6 s ((0:Nat):Int) = s.cols[0]'h1 from E0 (by simpa using hc)] at h2
   rcases hd.col hc with ⟨_,e⟩ | ⟨h,_⟩ | ⟨h,_⟩
   ·rw [e] at h2;cases h2
   ·omega
   ·omega
  ·omega
 exact bI hd hc (by dsimp only;omega) (by dsimp only;omega) (by dsimp only;omega)
structure QD (s:B2) (x:List Pk):Prop where
 ok:∀ q ∈ x,Fc s q = 0 ∧ (C6 s q.col).kind = 2
 asc:List.Pairwise (fun p q:Pk=>p.col < q.col) x
theorem ML (l:List UInt8) {s:B2} (hd:F6 s):∀ (cs:List Nat) (x:List Pk × Nat),(∀ c ∈ cs,c ∈ H2 s 2 s.cols.length) → List.Pairwise (fun a b:Nat=>a < b) cs → QD s x.1 → (∀ q ∈ x.1,∀ c ∈ cs,q.col < (c:Int)) → QD s (CK l s cs x).1 ∧ (CK l s cs x).1.length = x.1.length + cs.length
 | [],x,_,_,h,_=>⟨h,rfl⟩
 | c :: r,x,hm,hp,h,hx=>by
   have hc:=hm c (by simp)
   have hk:=da l x.2 hd hc
   obtain ⟨h1,h2⟩:=ML l hd r (x.1 ++ [⟨c,(B9 l x.2 (I3 s c + 1)).1⟩],(B9 l x.2 (I3 s c + 1)).2) (fun c' hc'=>hm c' (by simp [hc'])) (List.pairwise_cons.1 hp).2 ⟨fun q hq=>by
     rcases List.mem_append.1 hq with hq | hq
     ·exact h.ok q hq
     ·simp only [List.mem_singleton] at hq
      subst hq
      exact ⟨hk,(i8.1 hc).2⟩,List.pairwise_append.2 ⟨h.asc,List.pairwise_singleton _ _,fun p hp q hq=>by
       simp only [List.mem_singleton] at hq
       subst hq
       exact hx p hp c (by simp)⟩⟩ (fun q hq c' hc'=>by
     rcases List.mem_append.1 hq with hq | hq
     ·exact hx q hq c' (by simp [hc'])
     ·simp only [List.mem_singleton] at hq
      subst hq
      have:=(List.pairwise_cons.1 hp).1 c' hc'
      dsimp only;omega)
   refine ⟨h1,?_⟩
   show (CK l s r _).1.length = _
   rw [h2,List.length_append,List.length_cons,List.length_cons,List.length_nil];omega
theorem RK (l:List UInt8) (a:Nat) {s:B2} (hd:F6 s):i6 s (Ar l a s).1 = 0:=by
 have h2:=hd.two.1
 have h3:=hd.cnt.1
 have key:QD s (Ar l a s).1 ∧ 1 ≤ (Ar l a s).1.length ∧ (Ar l a s).1.length ≤ 3:=by
  unfold Ar
  split
  ·have hlt:=I0 l (B9 l a 2).2 (n:=(H2 s 2 s.cols.length).length) (by omega)
   obtain ⟨q1,q2⟩:=ML l hd ((H2 s 2 s.cols.length).drop (B9 l (B9 l a 2).2 (H2 s 2 s.cols.length).length).1) ([],(B9 l (B9 l a 2).2 (H2 s 2 s.cols.length).length).2) (fun c hc=>List.mem_of_mem_drop hc) ((DP s 2 _).drop) ⟨fun q hq=>absurd hq (List.not_mem_nil), .nil⟩ (fun q hq=>absurd hq (List.not_mem_nil))
   refine ⟨q1,?_⟩
   rw [q2,List.length_drop,List.length_nil];omega
  ·obtain ⟨q1,q2⟩:=ML l hd (H2 s 2 s.cols.length) ([],(B9 l a 2).2) (fun c hc=>hc) (DP s 2 _) ⟨fun q hq=>absurd hq (List.not_mem_nil), .nil⟩ (fun q hq=>absurd hq (List.not_mem_nil))
   refine ⟨q1,?_⟩
   rw [q2,List.length_nil];omega
 generalize (Ar l a s).1 = x at *
 obtain ⟨hx,hl⟩:=key
 unfold i6
 rw [if_neg (by omega)]
 refine u5 fun i d hi=>?_
 rw [Nat.zero_add]
 obtain ⟨o1,o2⟩:=hx.ok d (List.mem_of_getElem? hi)
 have op:W4 s d = 0:=by unfold W4;rw [if_pos hd.ok];exact o1
 have hany:((x.take i).any fun y=>decide (y.col = d.col)) = false:=List.any_eq_false.2 fun y hy=>by
  obtain ⟨j,hj,rfl⟩:=List.getElem_of_mem hy
  rw [List.length_take] at hj
  rw [List.getElem_take]
  have hlt:=Q0 hi
  have:=List.pairwise_iff_getElem.1 hx.asc j i (by omega) hlt (by omega)
  have e:x[i]'hlt = d:=by rw [List.getElem?_eq_getElem hlt] at hi;exact Option.some.inj hi
  rw [e] at this
  simp only [decide_eq_true_eq];omega
 unfold s8
 rw [if_neg (by omega),if_neg (by omega),hany,if_neg (by decide)]
theorem MM (l:List UInt8) (m:Int) (hi:Nat):∀ (cs:List Nat) (x:List Int × Nat),List.Pairwise (fun a b:Nat=>a < b) cs → (∀ c ∈ cs,∀ q ∈ x.1,q < (c:Int)) → List.Pairwise (fun a b:Int=>a < b) x.1 → (∀ q ∈ x.1,q ≠ m) →
  List.Pairwise (fun a b:Int=>a < b) (r9 l m cs x).1 ∧ (∀ q ∈ (r9 l m cs x).1,q ≠ m ∧ (q ∈ x.1 ∨ ∃ c ∈ cs,q = (c:Int))) ∧ (r9 l m cs x).1.length ≤ x.1.length + cs.length
 | [],x,_,_,h,hm=>⟨h,fun q hq=>⟨hm q hq, .inl hq⟩,Nat.le_refl _⟩
 | c :: r,x,hp,hx,h,hm=>by
   have hadd:∀ a,(c:Int) ≠ m → List.Pairwise (fun a b:Int=>a < b) (r9 l m r (x.1 ++ [(c:Int)],a)).1 ∧ (∀ q ∈ (r9 l m r (x.1 ++ [(c:Int)],a)).1,q ≠ m ∧ (q ∈ x.1 ∨ ∃ c' ∈ c :: r,q = (c':Int))) ∧ (r9 l m r (x.1 ++ [(c:Int)],a)).1.length ≤ x.1.length + (c :: r).length:=fun a hcm=>by
    obtain ⟨h1,h2,h3⟩:=MM l m hi r (x.1 ++ [(c:Int)],a) (List.pairwise_cons.1 hp).2 (fun c' hc' q hq=>by
      rcases List.mem_append.1 hq with hq | hq
      ·exact hx c' (by simp [hc']) q hq
      ·simp only [List.mem_singleton] at hq
       have:=(List.pairwise_cons.1 hp).1 c' hc'
       omega) (List.pairwise_append.2 ⟨h,List.pairwise_singleton _ _,fun p hp q hq=>by
      simp only [List.mem_singleton] at hq
      have:=hx c (by simp) p hp
      omega⟩) (fun q hq=>by
      rcases List.mem_append.1 hq with hq | hq
      ·exact hm q hq
      ·simp only [List.mem_singleton] at hq;omega)
    refine ⟨h1,fun q hq=>⟨(h2 q hq).1,?_⟩,by rw [List.length_append,List.length_cons,List.length_nil] at h3;rw [List.length_cons];omega⟩
    rcases (h2 q hq).2 with h4 | ⟨c',h4,h5⟩
    ·rcases List.mem_append.1 h4 with h4 | h4
     ·exact .inl h4
     ·simp only [List.mem_singleton] at h4;exact .inr ⟨c,by simp,h4⟩
    ·exact .inr ⟨c',by simp [h4],h5⟩
   have hnot:∀ a,List.Pairwise (fun a b:Int=>a < b) (r9 l m r (x.1,a)).1 ∧ (∀ q ∈ (r9 l m r (x.1,a)).1,q ≠ m ∧ (q ∈ x.1 ∨ ∃ c' ∈ c :: r,q = (c':Int))) ∧ (r9 l m r (x.1,a)).1.length ≤ x.1.length + (c :: r).length:=fun a=>by
    obtain ⟨h1,h2,h3⟩:=MM l m hi r (x.1,a) (List.pairwise_cons.1 hp).2 (fun c' hc' q hq=>hx c' (by simp [hc']) q hq) h hm
    refine ⟨h1,fun q hq=>⟨(h2 q hq).1,?_⟩,by rw [List.length_cons];dsimp only at h3;omega⟩
    rcases (h2 q hq).2 with h4 | ⟨c',h4,h5⟩
    ·exact .inl h4
    ·exact .inr ⟨c',by simp [h4],h5⟩
   rw [r9]
   split
   ·split
    ·exact hadd _ (by assumption)
    ·split
     ·exact hadd _ (by assumption)
     ·exact hnot _
   ·exact hnot _
theorem QE (l:List UInt8) (a:Nat) {s:B2} (hd:F6 s) (m:Int) (hne:0 < ((DO l a s m).1.length:Int)):m4 s m (DO l a s m).1 = 0:=by
 have h3:=hd.cnt.2
 obtain ⟨q1,q2,q3⟩:=MM l m 0 (H2 s 3 s.cols.length) ([],a) (DP s 3 _) (fun c hc q hq=>by cases hq) .nil (fun q hq=>by cases hq)
 unfold DO at hne ⊢
 generalize (r9 l m (H2 s 3 s.cols.length) ([],a)).1 = x at *
 rw [List.length_nil] at q3
 unfold m4
 rw [if_neg (by omega)]
 refine u5 fun i c hi=>?_
 rw [Nat.zero_add]
 obtain ⟨o1,o2⟩:=q2 c (List.mem_of_getElem? hi)
 have hb:d0 s c 3 = true:=by
  rcases o2 with h | ⟨k,h,rfl⟩
  ·cases h
  ·obtain ⟨p1,p2⟩:=i8.1 h
   unfold d0
   rw [decide_eq_true_iff]
   exact ⟨by omega,by omega,p2⟩
 have hany:((x.take i).any fun y=>decide (y = c)) = false:=List.any_eq_false.2 fun y hy=>by
  obtain ⟨j,hj,rfl⟩:=List.getElem_of_mem hy
  rw [List.length_take] at hj
  rw [List.getElem_take]
  have hlt:=Q0 hi
  have:=List.pairwise_iff_getElem.1 q1 j i (by omega) hlt (by omega)
  have e:x[i]'hlt = c:=by rw [List.getElem?_eq_getElem hlt] at hi;exact Option.some.inj hi
  rw [e] at this
  simp only [decide_eq_true_eq];omega
 unfold s9
 rw [hb,if_neg (by decide),hany,if_neg (by rintro (h | h);exact o1 h;cases h)]
end Go.Proofs.YthkklceofokkmaaGreatDoor
namespace Go.Proofs.YthkklceofokkmaaGreatDoor
open Go Go.Av
attribute [local irreducible] E5 B7 E6 E7 DQ E8 F0 St.le B3 B5
set_option maxRecDepth 100000
def CX:A4:=.mk 1 0 0 0 0 []
def MN (l:List UInt8) (s:B2) (nm:List UInt8) (c:A4) (m:Int) (a:Nat):D3 × Nat:=(⟨nm,1,c,(Ar l a s).1,m,[],zC⟩,(Ar l a s).2)
def FG (l:List UInt8) (s:B2) (nm:List UInt8) (a:Nat):D3 × Nat :=
 let n:=B9 l a 3
 let c:=K6 l s n.1 n.2
 let m:=k9 l c.2 s 3
 let w:=B9 l m.2 4
 if (w.1:Int) = 1 then MN l s nm c.1 m.1 w.2
 else if (w.1:Int) = 2 then
  let t:=DO l w.2 s m.1
  if 0 < (t.1.length:Int) then (⟨nm,2,c.1,[],m.1,t.1,zC⟩,t.2) else MN l s nm c.1 (-1) t.2
 else if (w.1:Int) = 3 then
  if 0 ≤ (C6 s m.1).low then
   let v:=K6 l s 1 w.2
   (⟨nm,3,c.1,[],m.1,[],v.1⟩,v.2)
  else MN l s nm c.1 (-1) w.2
 else MN l s nm c.1 (-1) w.2
def b7 (l:List UInt8) (s:B2):Nat → List D3 × Nat → List D3 × Nat
 | 0,x=>x
 | n + 1,x =>
   let q:=FG l s ([113] ++ M4 (n + 1)) x.2
   b7 l s n (x.1 ++ [q.1],q.2)
def L9 (l:List UInt8) (s:B2) (a:Nat):F4 × Nat :=
 let p:=B9 l a 3
 let c:=K6 l s 1 p.2
 let z:=B9 l c.2 999
 let u:=B9 l z.2 3
 let v:=B9 l u.2 3
 let coh:=if (u.1:Int) = 3 - 1 then CX else c.1
 if (v.1:Int) = 3 - 1 then
  let o:=B9 l v.2 4
  let r:=B9 l o.2 (2 + (o.1:Int))
  (⟨[112] ++ M4 p.1,[115,114,99],coh,1 + r.1,2 + o.1,z.1,[]⟩,r.2)
 else (⟨[112] ++ M4 p.1,[115,114,99],coh,1,1,z.1,[]⟩,v.2)
def Q7 (l:List UInt8) (s:B2) (a:Nat):F4 × Nat :=
 let h:=L9 l s a
 let n:=B9 l h.2 3
 let x:=b7 l s (1 + n.1) ([],n.2)
 ({ h.1 with qs:=x.1 },x.2)
theorem Tr {s:B2} (hr:C8 s = 0) {q:D3} (h1:C9 q.name = true) (h2:q.kind = 1) (h3:H0 s q.flt = 0) (h4:i6 s q.dims = 0) (h5:q.mea = -1 ∨ d0 s q.mea 3 = true) (h6:q.trms = []) (h7:q.evt = zC):W8 s q = 0:=by
 unfold W8 Ha
 rw [if_neg (by omega),h1,if_neg (by simp),if_neg (by omega),if_neg (by omega),if_pos h2,if_neg (by omega),if_neg,if_neg]
 ·rintro (h | h)
  ·rw [h6] at h;exact absurd h (by simp)
  ·rw [h7] at h;exact h Vr
 ·rintro ⟨h8,h9⟩
  rcases h5 with h | h
  ·exact h8 h
  ·rw [HZ _ _ _ (by decide)] at h
   exact h9 (of_decide_eq_true h)
theorem Ts {s:B2} (hr:C8 s = 0) {q:D3} (h1:C9 q.name = true) (h2:q.kind = 2) (h3:H0 s q.flt = 0) (h4:m4 s q.mea q.trms = 0) (h5:d0 s q.mea 3 = true) (h6:q.dims = []) (h7:q.evt = zC):W8 s q = 0:=by
 rw [HZ _ _ _ (by decide)] at h5
 unfold W8 GX
 rw [if_neg (by omega),h1,if_neg (by simp),if_neg (by omega),if_neg (by omega),if_neg (by omega),if_pos h2,if_neg (fun h=>h (of_decide_eq_true h5)),if_neg (by omega),if_neg]
 rintro (h | h)
 ·rw [h6] at h;exact absurd h (by simp)
 ·rw [h7] at h;exact h Vr
theorem Tt {s:B2} (hr:C8 s = 0) {q:D3} (h1:C9 q.name = true) (h2:q.kind = 3) (h3:H0 s q.flt = 0) (h4:H0 s q.evt = 0) (h5:d0 s q.mea 3 = true) (h8:0 ≤ (C6 s q.mea).low) (h6:q.dims = []) (h7:q.trms = []):W8 s q = 0:=by
 rw [HZ _ _ _ (by decide)] at h5
 unfold W8 Hb
 rw [if_neg (by omega),h1,if_neg (by simp),if_neg (by omega),if_neg (by omega),if_neg (by omega),if_neg (by omega),if_neg (fun h=>h (of_decide_eq_true h5)),if_neg (by omega),if_neg (by omega),if_neg]
 rintro (h | h)
 ·rw [h6] at h;exact absurd h (by simp)
 ·rw [h7] at h;exact absurd h (by simp)
theorem Ds {s:B2} (hd:F6 s) (l:List UInt8) {nm:List UInt8} (hn:C9 nm = true) {c:A4} (hc:H0 s c = 0) {m:Int} (hm:m = -1 ∨ d0 s m 3 = true) (a:Nat):W8 s (MN l s nm c m a).1 = 0 :=
 Tr hd.ok hn rfl hc (RK l a hd) hm rfl rfl
theorem Tu {s:B2} (hd:F6 s) (l:List UInt8) {nm:List UInt8} (hn:C9 nm = true) (a:Nat):W8 s (FG l s nm a).1 = 0 ∧ (FG l s nm a).1.name = nm:=by
 have hk:=I0 l a (n:=3) (by omega)
 unfold FG
 dsimp only
 have hc:=(Gd hd l (B9 l a 3).1 (B9 l a 3).2 (by omega)).1
 have hm:=fun b=>bH hd l b
 split
 ·exact ⟨Ds hd l hn hc (.inr (hm _)) _,rfl⟩
 ·split
  ·split
   ·rename_i ht
    exact ⟨Ts hd.ok hn rfl hc (QE l _ hd _ ht) (hm _) rfl rfl,rfl⟩
   ·exact ⟨Ds hd l hn hc (.inl rfl) _,rfl⟩
  ·split
   ·split
    ·rename_i hlo
     exact ⟨Tt hd.ok hn rfl hc (Gd hd l 1 _ (by omega)).1 (hm _) hlo rfl rfl,rfl⟩
    ·exact ⟨Ds hd l hn hc (.inl rfl) _,rfl⟩
   ·exact ⟨Ds hd l hn hc (.inl rfl) _,rfl⟩
theorem db:∀ n:Nat,n < 4 → C9 ([113] ++ M4 n) = true:=by decide
theorem Vs:∀ n:Nat,n < 4 → C9 ([112] ++ M4 n) = true:=by decide
theorem dc:∀ i:Nat,i < 4 → ∀ j:Nat,j < 4 → [113] ++ M4 i = [113] ++ M4 j → i = j:=by decide
theorem SJ {s:B2} (hd:F6 s) (l:List UInt8):∀ (n N:Nat) (x:List D3 × Nat),n + x.1.length = N → N < 4 → (∀ (i:Nat) q,x.1[i]? = some q → W8 s q = 0 ∧ q.name = [113] ++ M4 (N - i)) →
  (b7 l s n x).1.length = N ∧ ∀ (i:Nat) q,(b7 l s n x).1[i]? = some q → W8 s q = 0 ∧ q.name = [113] ++ M4 (N - i)
 | 0,N,x,h,_,hx=>⟨by show x.1.length = N;omega,hx⟩
 | n + 1,N,x,h,hN,hx=>by
   rw [b7]
   obtain ⟨q1,q2⟩:=Tu hd l (db (n + 1) (by omega)) x.2
   refine SJ hd l n N _ (by dsimp only;rw [List.length_append,List.length_singleton];omega) hN fun i q hq=>?_
   dsimp only at hq
   by_cases hi:i < x.1.length
   ·rw [List.getElem?_append_left hi] at hq
    exact hx i q hq
   ·rw [List.getElem?_append_right (by omega)] at hq
    obtain ⟨k,hk⟩:∃ k,i - x.1.length = k:=⟨_,rfl⟩
    rw [hk] at hq
    cases k with
    | zero =>
      cases hq
      exact ⟨q1,by rw [q2,show N - i = n + 1 by omega]⟩
    | succ k=>simp at hq
theorem bJ {s:B2} {L:List D3} {N:Nat} (hN:N < 4) (hl:L.length = N) (h:∀ (i:Nat) q,L[i]? = some q → W8 s q = 0 ∧ q.name = [113] ++ M4 (N - i)):I2 (CV s L) 0 L = 0:=by
 refine u5 fun i q hi=>?_
 rw [Nat.zero_add]
 have hil:=Q0 hi
 obtain ⟨h1,h2⟩:=h i q hi
 unfold CV
 rw [if_neg (by omega),if_neg]
 intro hany
 obtain ⟨y,hy,he⟩:=List.any_eq_true.1 hany
 obtain ⟨j,hj⟩:=List.mem_iff_getElem?.1 hy
 have hjl:=Q0 hj
 rw [List.length_take] at hjl
 rw [List.getElem?_take,if_pos (by omega)] at hj
 have e:=of_decide_eq_true he
 rw [(h j y hj).2,h2] at e
 have:=dc _ (by omega) _ (by omega) e
 omega
theorem Vt {s:B2} (hr:C8 s = 0):H0 s CX = 0:=by
 unfold H0
 rw [if_pos hr,if_neg (by decide),if_neg (by decide)]
 rfl
theorem LM {s:B2} (hd:F6 s) (l:List UInt8) (a:Nat):U8 s (Q7 l s a).1 = 0 ∧ 1 ≤ (Q7 l s a).1.qs.length ∧ (Q7 l s a).1.qs.length ≤ 3:=by
 have hn:=I0 l (L9 l s a).2 (n:=3) (by omega)
 have hp:=I0 l a (n:=3) (by omega)
 obtain ⟨q1,q2⟩:=SJ hd l (1 + (B9 l (L9 l s a).2 3).1) (1 + (B9 l (L9 l s a).2 3).1) ([],(B9 l (L9 l s a).2 3).2) rfl (by omega) (fun i q h=>by simp at h)
 have hdup:=bJ (by omega) q1 q2
 have hc:=(Gd hd l 1 (B9 l a 3).2 (by omega)).1
 have hz:=I0 l (K6 l s 1 (B9 l a 3).2).2 (n:=999) (by omega)
 have hq:(Q7 l s a).1.qs = (b7 l s (1 + (B9 l (L9 l s a).2 3).1) ([],(B9 l (L9 l s a).2 3).2)).1:=rfl
 rw [hq]
 refine ⟨?_,by omega,by omega⟩
 have hh:C9 (L9 l s a).1.prj = true ∧ (L9 l s a).1.src = [115,114,99] ∧ H0 s (L9 l s a).1.coh = 0 ∧ 1 ≤ (L9 l s a).1.of ∧ (L9 l s a).1.of ≤ 5 ∧ 1 ≤ (L9 l s a).1.part ∧ (L9 l s a).1.part ≤ (L9 l s a).1.of ∧ 0 ≤ (L9 l s a).1.seed ∧ (L9 l s a).1.seed ≤ 999:=by
  have hco:H0 s (if ((B9 l (B9 l (K6 l s 1 (B9 l a 3).2).2 999).2 3).1:Int) = 3 - 1 then CX else (K6 l s 1 (B9 l a 3).2).1) = 0:=by
   split
   ·exact Vt hd.ok
   ·exact hc
  unfold L9
  dsimp only
  split
  ·have ho:=I0 l (B9 l (B9 l (B9 l (K6 l s 1 (B9 l a 3).2).2 999).2 3).2 3).2 (n:=4) (by omega)
   have hr:=I0 l (B9 l (B9 l (B9 l (B9 l (K6 l s 1 (B9 l a 3).2).2 999).2 3).2 3).2 4).2 (n:=2 + ((B9 l (B9 l (B9 l (B9 l (K6 l s 1 (B9 l a 3).2).2 999).2 3).2 3).2 4).1:Int)) (by omega)
   exact ⟨Vs _ (by omega),rfl,hco,by dsimp only;omega,by dsimp only;omega,by dsimp only;omega,by dsimp only;omega,by dsimp only;omega,by dsimp only;omega⟩
  ·exact ⟨Vs _ (by omega),rfl,hco,by dsimp only;omega,by dsimp only;omega,by dsimp only;omega,by dsimp only;omega,by dsimp only;omega,by dsimp only;omega⟩
 obtain ⟨p1,p2,p3,p4,p5,p6,p7,p8,p9⟩:=hh
 unfold U8
 have e:∀ (f:F4 → Int),f (Q7 l s a).1 = f { (L9 l s a).1 with qs:=(b7 l s (1 + (B9 l (L9 l s a).2 3).1) ([],(B9 l (L9 l s a).2 3).2)).1 }:=fun f=>rfl
 show (if ¬ C8 s = 0 then C8 s else if C9 (L9 l s a).1.prj = false ∨ C9 (L9 l s a).1.src = false then 3 else if ¬ H0 s (L9 l s a).1.coh = 0 then H0 s (L9 l s a).1.coh else if (L9 l s a).1.of < 1 ∨ 1000 < (L9 l s a).1.of ∨ (L9 l s a).1.part < 1 ∨ (L9 l s a).1.of < (L9 l s a).1.part ∨ (L9 l s a).1.seed < 0 ∨ 1099511627776 < (L9 l s a).1.seed then 2 else if (b7 l s (1 + (B9 l (L9 l s a).2 3).1) ([],(B9 l (L9 l s a).2 3).2)).1.length = 0 ∨ 8 < (b7 l s (1 + (B9 l (L9 l s a).2 3).1) ([],(B9 l (L9 l s a).2 3).2)).1.length then 1 else I2 (CV s (b7 l s (1 + (B9 l (L9 l s a).2 3).1) ([],(B9 l (L9 l s a).2 3).2)).1) 0 (b7 l s (1 + (B9 l (L9 l s a).2 3).1) ([],(B9 l (L9 l s a).2 3).2)).1) = 0
 rw [if_neg (by have:=hd.ok;omega),p1,p2,if_neg (by rw [show C9 [115,114,99] = true by decide];simp),if_neg (by omega),if_neg (by omega),if_neg (by omega),hdup]
end Go.Proofs.YthkklceofokkmaaGreatDoor
