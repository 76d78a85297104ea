/- Chapter 16: the text of a right expression is read as it. -/
import Derived.Test.YthkklceofokkmaaGreatDoorBRp1
import Derived.Lib.Join
import Derived.Lib.IndexMore
import Derived.Lib.IndexBytes
import Derived.Test.YthkklceofokkmaaGreatDoorBD1
import Derived.Test.YthkklceofokkmaaGreatDoorBCm1
import Derived.Lib.Split
import Derived.Lib.LastIndexLaws
set_option linter.unusedVariables false
set_option linter.unnecessarySimpa false
set_option linter.unusedSimpArgs false
namespace Go.Proofs.YthkklceofokkmaaGreatDoor
open Go Go.Av
attribute [local irreducible] E5 B7 E6 E7 DQ E8 F0 St.le B3 B5
set_option maxRecDepth 100000
theorem dW {s:B2} (hr:C8 s = 0) {c:Int} (h0:0 ≤ c) (h1:c < s.cols.length):∃ nm:List UInt8,H7 s c = nm ∧ C9 nm = true ∧ J3 s nm = c:=by
 obtain ⟨x,hx⟩:∃ x,s.cols[c.toNat]? = some x:=⟨_,List.getElem?_eq_getElem (by omega)⟩
 refine ⟨x.name,?_,(j3 hr hx).1,?_⟩
 ·unfold H7 R4
  rw [if_neg (by omega),E0 hx]
 ·rw [Pr hr hx];omega
abbrev SF (s:B2) (d:Pk):Prop:=(0 ≤ d.col ∧ d.col < s.cols.length) ∧ 0 ≤ d.lev ∧ d.lev ≤ 61
theorem Vn (sep:List UInt8) (hs:1 ≤ sep.length):∀ l:List (List UInt8),l.length ≤ (P9 sep l).length + 1
 | []=>by simp
 | [x]=>by simp
 | x :: y :: r=>by
   have:=Vn sep hs (y :: r)
   rw [P9,List.length_append,List.length_append,List.length_cons]
   omega
theorem Vo {c:A4} (h:U7 c):c = zX:=by
 obtain ⟨o,cl,k,lo,hi,ks⟩:=c
 obtain ⟨h1,h2,h3,h4,h5,h6⟩:=h
 dsimp only [A4.op,A4.col,A4.code,A4.lo,A4.hi,A4.kids] at *
 subst h1 h2 h3 h4 h5
 rw [List.eq_nil_of_length_eq_zero h6];rfl
def Zj (u:List UInt8):Prop:=∀ b r,u = b :: r → b.toNat = 32 ∨ b.toNat = 41
theorem Zj.stops {u:List UInt8} (h:Zj u):Ao u:=fun b r e=>by
 have:=h b r e
 unfold J5
 exact decide_eq_false (by omega)
end Go.Proofs.YthkklceofokkmaaGreatDoor
namespace Go.Proofs.YthkklceofokkmaaGreatDoor
open Go Go.Av
attribute [local irreducible] E5 B7 E6 E7 DQ E8 F0 St.le B3 B5
set_option maxRecDepth 100000
theorem Ig (c:UInt8):∀ s:List UInt8,Lib.cut s [c] = (s.takeWhile (B6 c),(s.dropWhile (B6 c)).drop 1,decide (s.dropWhile (B6 c) ≠ []))
 | []=>rfl
 | b :: r=>by
   have ih:=Ig c r
   have hge:=Lib.index_ge r [c]
   by_cases h:b = c
   ·subst h
    have hi:Lib.index (b :: r) [b] = 0:=by unfold Lib.index;simp
    have hn:B6 b b = false:=by unfold B6;simp
    unfold Lib.cut
    rw [hi,if_pos (Int.le_refl 0),List.takeWhile_cons,List.dropWhile_cons,hn]
    simp
   ·have hn:B6 c b = true:=by unfold B6;simp [h]
    have hp:([c].isPrefixOf (b :: r)) = false:=by simp [List.isPrefixOf];exact fun e=>h e.symm
    have hi:Lib.index (b :: r) [c] = if Lib.index r [c] == -1 then -1 else Lib.index r [c] + 1:=by rw [Lib.index,hp];rfl
    rw [List.takeWhile_cons,List.dropWhile_cons,hn,if_pos rfl,if_pos rfl]
    unfold Lib.cut at ih ⊢
    by_cases h1:Lib.index r [c] = -1
    ·rw [h1,if_neg (by decide)] at ih
     obtain ⟨i1,i2⟩:=Prod.mk.inj ih
     obtain ⟨i2,i3⟩:=Prod.mk.inj i2
     have hi2:Lib.index (b :: r) [c] = -1:=by rw [hi,h1];rfl
     rw [hi2,if_neg (by decide), ← i1, ← i2, ← i3]
    ·rw [if_pos (by omega)] at ih
     obtain ⟨i1,i2⟩:=Prod.mk.inj ih
     obtain ⟨i2,i3⟩:=Prod.mk.inj i2
     have hb:(Lib.index r [c] == -1) = false:=beq_eq_false_iff_ne.2 h1
     have hi2:Lib.index (b :: r) [c] = Lib.index r [c] + 1:=by rw [hi,hb];rfl
     rw [hi2,if_pos (by omega), ← i1, ← i2, ← i3,show (Lib.index r [c] + 1).toNat = (Lib.index r [c]).toNat + 1 by omega,List.take_succ_cons,show (Lib.index r [c]).toNat + 1 + [c].length = ((Lib.index r [c]).toNat + [c].length) + 1 by omega,List.drop_succ_cons]
end Go.Proofs.YthkklceofokkmaaGreatDoor
namespace Go.Proofs.YthkklceofokkmaaGreatDoor
open Go Go.Av
attribute [local irreducible] E5 B7 E6 E7 DQ E8 F0 St.le B3 B5
set_option maxRecDepth 100000
theorem Ap {s:B2} (hr:C8 s = 0) (c:Int):(H7 s c).length ≤ 16:=by
 unfold H7
 split
 ·simp
 ·unfold R4
  by_cases h:c.toNat < s.cols.length
  ·have hx:s.cols[c.toNat]? = some (s.cols[c.toNat]'h):=List.getElem?_eq_getElem h
   rw [E0 hx]
   exact T9 (Pn hr hx)
  ·have:(C6 s c).name = []:=by
    unfold C6
    rw [List.getD_eq_getElem?_getD,List.getElem?_eq_none (by omega)];rfl
   rw [this]
   simp
theorem YB {s:B2} (hr:C8 s = 0) {d:Pk} (h:SF s d):(P6 s d).length ≤ 40:=by
 have h1:=Ap hr d.col
 have h2:=Lib.itoa_length_le d.lev (by have:=h.2;omega) (by have:=h.2;omega)
 unfold P6
 simp only [List.length_append,List.length_cons,List.length_nil]
 omega
theorem Ae {s:B2} {c:A4} (h:H0 s c = 0):(D6 s c).length ≤ 4000:=by
 obtain ⟨hr,h3,h4,h5⟩:=Dm h
 have:=(Gf s hr c h5 (by omega)).2
 omega
end Go.Proofs.YthkklceofokkmaaGreatDoor
namespace Go.Proofs.YthkklceofokkmaaGreatDoor
open Go Go.Av
attribute [local irreducible] E5 B7 E6 E7 DQ E8 F0 St.le B3 B5
set_option maxRecDepth 100000
abbrev Ay:List UInt8:=[116,97,98,108,101,32]
abbrev Da:List UInt8:=[32,98,121]
abbrev Pt:List UInt8:=[32,115,117,109,32]
abbrev BS:List UInt8:=[109,111,100,101,108,32]
abbrev Y9:List UInt8:=[32,111,102,32]
abbrev ET:List UInt8:=[32,111,110]
abbrev MC:List UInt8:=[99,117,114,118,101,32]
abbrev MD:List UInt8:=[32,101,118,101,110,116,32]
abbrev J1:List UInt8:=[32,119,104,101,114,101,32]
abbrev Gh:List UInt8:=[112,114,111,106,101,99,116,32]
abbrev ME:List UInt8:=[115,111,117,114,99,101,32]
abbrev BT:List UInt8:=[99,111,104,111,114,116,32]
abbrev YC:List UInt8:=[10,115,111,117,114,99,101,32]
abbrev YD:List UInt8:=[10,99,111,104,111,114,116,32]
abbrev EU:List UInt8:=[115,97,109,112,108,101,32]
abbrev CJ:List UInt8:=[32,115,101,101,100,32]
def d7 (s:B2) (d:Pk):List UInt8:=[32] ++ H7 s d.col ++ [47] ++ Lib.itoa d.lev
def p0 (s:B2) (c:Int):List UInt8:=[32] ++ H7 s c
def Fj (s:B2) (q:D3):List UInt8 :=
 if q.kind = 1 then Ay ++ q.name ++ Da ++ q.dims.flatMap (d7 s) ++ (if 0 ≤ q.mea then Pt ++ H7 s q.mea else [])
 else if q.kind = 2 then BS ++ q.name ++ Y9 ++ H7 s q.mea ++ ET ++ q.trms.flatMap (p0 s)
 else MC ++ q.name ++ Y9 ++ H7 s q.mea ++ MD ++ D6 s q.evt
def K3 (s:B2) (q:D3):List UInt8:=Fj s q ++ J1 ++ D6 s q.flt
def N6 (s:B2) (d:F4):List UInt8:=Gh ++ d.prj ++ YC ++ d.src ++ YD ++ D6 s d.coh ++ [10]
def T4 (d:F4):List UInt8:=EU ++ Lib.itoa d.part ++ Y9 ++ Lib.itoa d.of ++ CJ ++ Lib.itoa d.seed ++ [10]
def G5 (s:B2) (l:List D3):List UInt8:=l.flatMap fun q=>K3 s q ++ [10]
def N7 (s:B2) (d:F4):List UInt8:=N6 s d ++ T4 d ++ G5 s d.qs
def Hr (s:B2) (d:F4):List UInt8 × Int:=if U8 s d = 0 then (if 20000 < (N7 s d).length then ([],1) else (N7 s d,0)) else ([],U8 s d)
structure Dq (s:B2) (q:D3):Prop where
 name:C9 q.name = true
 flt:H0 s q.flt = 0
 kind:q.kind = 1 ∧ (1 ≤ q.dims.length ∧ q.dims.length ≤ 3 ∧ ∀ d ∈ q.dims,SF s d) ∧ (q.mea = -1 ∨ 0 ≤ q.mea ∧ q.mea < s.cols.length) ∧ q.trms = [] ∧ U7 q.evt
  ∨ q.kind = 2 ∧ (0 ≤ q.mea ∧ q.mea < s.cols.length) ∧ (1 ≤ q.trms.length ∧ q.trms.length ≤ 3 ∧ ∀ c ∈ q.trms,0 ≤ c ∧ c < s.cols.length) ∧ q.dims = [] ∧ U7 q.evt
  ∨ q.kind = 3 ∧ (0 ≤ q.mea ∧ q.mea < s.cols.length) ∧ H0 s q.evt = 0 ∧ q.dims = [] ∧ q.trms = []
theorem Pu {s:B2} {c k:Int} (h:S8 s c = k) (hk:¬ k = 0):0 ≤ c ∧ c < s.cols.length:=by
 unfold S8 at h
 split at h
 ·omega
 ·omega
theorem fA {s:B2} {c k:Int} (h:d0 s c k = true):0 ≤ c ∧ c < s.cols.length:=by
 unfold d0 at h
 have:=of_decide_eq_true h
 exact ⟨this.1,this.2.1⟩
theorem YE {s:B2} {d:Pk} (h:W4 s d = 0):SF s d:=by
 unfold W4 Fc R7 at h
 split at h
 ·split at h
  ·rw [if_pos (show (-1:Int) < 0 by omega)] at h;cases h
  ·rename_i hc
   have hx:s.cols[d.col.toNat]? = some (s.cols[d.col.toNat]'(by omega)):=List.getElem?_eq_getElem (by omega)
   split at h
   ·cases h
   ·split at h
    ·cases h
    ·rename_i h1 h2
     refine ⟨⟨by omega,by omega⟩,by omega,?_⟩
     have hf:=aV (s:=s) (by assumption) d.col
     unfold R7 at hf
     rw [if_neg hc] at hf
     omega
 ·rename_i h1;exact absurd h h1
theorem Ih {s:B2} {q:D3} (h:W8 s q = 0):C8 s = 0 ∧ Dq s q:=by
 unfold W8 at h
 by_cases a1:¬ C8 s = 0
 ·rw [if_pos a1] at h;exact absurd h a1
 rw [if_neg a1] at h
 by_cases a2:C9 q.name = false
 ·rw [if_pos a2] at h;cases h
 rw [if_neg a2] at h
 by_cases a3:q.kind < 1 ∨ 3 < q.kind
 ·rw [if_pos a3] at h;cases h
 rw [if_neg a3] at h
 by_cases a4:¬ H0 s q.flt = 0
 ·rw [if_pos a4] at h;exact absurd h a4
 rw [if_neg a4] at h
 refine ⟨by omega,by simpa using a2,by omega,?_⟩
 by_cases k1:q.kind = 1
 ·rw [if_pos k1] at h
  unfold Ha at h
  by_cases b1:¬ i6 s q.dims = 0
  ·rw [if_pos b1] at h;exact absurd h b1
  rw [if_neg b1] at h
  by_cases b2:¬ q.mea = -1 ∧ ¬ S8 s q.mea = 3
  ·rw [if_pos b2] at h;cases h
  rw [if_neg b2] at h
  by_cases b3:0 < q.trms.length ∨ ¬ U7 q.evt
  ·rw [if_pos b3] at h;cases h
  have hd:i6 s q.dims = 0:=by omega
  have hdl:1 ≤ q.dims.length ∧ q.dims.length ≤ 3:=by
   unfold i6 at hd
   split at hd
   ·cases hd
   ·omega
  refine .inl ⟨k1,⟨hdl.1,hdl.2,fun d hdm=>?_⟩,?_,List.eq_nil_of_length_eq_zero (by omega),Decidable.of_not_not fun e=>b3 (.inr e)⟩
  ·obtain ⟨i,hi⟩:=List.mem_iff_getElem?.1 hdm
   unfold i6 at hd
   rw [if_neg (by omega)] at hd
   have:=AA hd i d hi
   rw [Nat.zero_add] at this
   unfold s8 at this
   split at this
   ·rename_i h1;exact absurd this h1
   ·exact YE (by omega)
  ·by_cases hm:q.mea = -1
   ·exact .inl hm
   ·exact .inr (Pu (Decidable.of_not_not fun e=>b2 ⟨hm,e⟩) (by decide))
 ·rw [if_neg k1] at h
  by_cases k2:q.kind = 2
  ·rw [if_pos k2] at h
   unfold GX at h
   by_cases b2:¬ S8 s q.mea = 3
   ·rw [if_pos b2] at h;cases h
   rw [if_neg b2] at h
   by_cases b1:¬ m4 s q.mea q.trms = 0
   ·rw [if_pos b1] at h;exact absurd h b1
   rw [if_neg b1] at h
   by_cases b3:0 < q.dims.length ∨ ¬ U7 q.evt
   ·rw [if_pos b3] at h;cases h
   have hd:m4 s q.mea q.trms = 0:=by omega
   have hdl:1 ≤ q.trms.length ∧ q.trms.length ≤ 3:=by
    unfold m4 at hd
    split at hd
    ·cases hd
    ·omega
   refine .inr (.inl ⟨k2,Pu (Decidable.of_not_not b2) (by decide),⟨hdl.1,hdl.2,fun c hc=>?_⟩,List.eq_nil_of_length_eq_zero (by omega),Decidable.of_not_not fun e=>b3 (.inr e)⟩)
   obtain ⟨i,hi⟩:=List.mem_iff_getElem?.1 hc
   unfold m4 at hd
   rw [if_neg (by omega)] at hd
   have:=AA hd i c hi
   unfold s9 at this
   split at this
   ·cases this
   ·rename_i h1;exact fA (k:=3) (by simpa using h1)
  ·rw [if_neg k2] at h
   unfold Hb at h
   by_cases b2:¬ S8 s q.mea = 3
   ·rw [if_pos b2] at h;cases h
   rw [if_neg b2] at h
   by_cases b3:(C6 s q.mea).low < 0
   ·rw [if_pos b3] at h;cases h
   rw [if_neg b3] at h
   by_cases b1:¬ H0 s q.evt = 0
   ·rw [if_pos b1] at h;exact absurd h b1
   rw [if_neg b1] at h
   by_cases b4:0 < q.dims.length ∨ 0 < q.trms.length
   ·rw [if_pos b4] at h;cases h
   exact .inr (.inr ⟨by omega,Pu (Decidable.of_not_not b2) (by decide),by omega,List.eq_nil_of_length_eq_zero (by omega),List.eq_nil_of_length_eq_zero (by omega)⟩)
theorem MF {s:B2} (hr:C8 s = 0) {d:Pk} (h:SF s d):(d7 s d).length ≤ 41:=by
 have:=YB hr h
 unfold P6 at this
 unfold d7
 simp only [List.length_append,List.length_cons,List.length_nil] at *
 omega
theorem MG {s:B2} (hr:C8 s = 0) (c:Int):(p0 s c).length ≤ 17:=by
 have:=Ap hr c
 unfold p0
 simp only [List.length_append,List.length_cons,List.length_nil]
 omega
theorem u7 {α:Type} {f:α → List UInt8} {n:Nat}:∀ {l:List α},(∀ x ∈ l,(f x).length ≤ n) → (l.flatMap f).length ≤ l.length * n
 | [],_=>by simp
 | x :: r,h=>by
   have h1:=h x (by simp)
   have h2:=u7 (l:=r) (f:=f) (n:=n) fun y hy=>h y (by simp [hy])
   rw [List.flatMap_cons,List.length_append,List.length_cons,Nat.add_mul]
   omega
theorem bE {s:B2} (hr:C8 s = 0) {q:D3} (h:Dq s q):(Fj s q).length ≤ 4100:=by
 have hn:=T9 h.name
 have hm:=Ap hr q.mea
 unfold Fj
 rcases h.kind with ⟨k,⟨_,d2,d3⟩,_⟩ | ⟨k,_,⟨_,d2,_⟩,_⟩ | ⟨k,_,d2,_⟩
 ·have h1:=u7 (l:=q.dims) (f:=d7 s) fun d hd=>MF hr (d3 d hd)
  have h2:q.dims.length * 41 ≤ 3 * 41:=Nat.mul_le_mul_right _ d2
  rw [if_pos k]
  split <;> simp only [List.length_append,List.length_cons,List.length_nil] <;> omega
 ·have h1:=u7 (l:=q.trms) (f:=p0 s) fun d hd=>MG hr d
  have h2:q.trms.length * 17 ≤ 3 * 17:=Nat.mul_le_mul_right _ d2
  rw [if_neg (by omega),if_pos k]
  simp only [List.length_append,List.length_cons,List.length_nil]
  omega
 ·have h1:=Ae d2
  rw [if_neg (by omega),if_neg (by omega)]
  simp only [List.length_append,List.length_cons,List.length_nil]
  omega
theorem Pv {s:B2} (hr:C8 s = 0) {q:D3} (h:Dq s q):(K3 s q).length ≤ 8200:=by
 have h1:=bE hr h
 have h2:=Ae h.flt
 unfold K3
 simp only [List.length_append,List.length_cons,List.length_nil]
 omega
structure AM (s:B2) (d:F4):Prop where
 sch:C8 s = 0
 prj:C9 d.prj = true
 src:C9 d.src = true
 coh:H0 s d.coh = 0
 num:1 ≤ d.of ∧ d.of ≤ 1000 ∧ 1 ≤ d.part ∧ d.part ≤ d.of ∧ 0 ≤ d.seed ∧ d.seed ≤ 1099511627776
 len:1 ≤ d.qs.length ∧ d.qs.length ≤ 8
 qs:∀ (i:Nat) q,d.qs[i]? = some q → W8 s q = 0 ∧ ((d.qs.take i).any fun x=>decide (x.name = q.name)) = false
theorem BU (s:B2) (d:F4):U8 s d = 0 ↔ AM s d:=by
 unfold U8
 constructor
 ·intro h
  by_cases a1:¬ C8 s = 0
  ·rw [if_pos a1] at h;exact absurd h a1
  rw [if_neg a1] at h
  by_cases a2:C9 d.prj = false ∨ C9 d.src = false
  ·rw [if_pos a2] at h;cases h
  rw [if_neg a2] at h
  by_cases a3:¬ H0 s d.coh = 0
  ·rw [if_pos a3] at h;exact absurd h a3
  rw [if_neg a3] at h
  by_cases a4:d.of < 1 ∨ 1000 < d.of ∨ d.part < 1 ∨ d.of < d.part ∨ d.seed < 0 ∨ 1099511627776 < d.seed
  ·rw [if_pos a4] at h;cases h
  rw [if_neg a4] at h
  by_cases a5:d.qs.length = 0 ∨ 8 < d.qs.length
  ·rw [if_pos a5] at h;cases h
  rw [if_neg a5] at h
  refine ⟨by omega,?_,?_,by omega,by omega,by omega,fun i q hi=>?_⟩
  ·cases hb:C9 d.prj
   ·exact absurd (.inl hb) a2
   ·rfl
  ·cases hb:C9 d.src
   ·exact absurd (.inr hb) a2
   ·rfl
  ·have:=AA h i q hi
   rw [Nat.zero_add] at this
   unfold CV at this
   split at this
   ·rename_i h1;exact absurd this h1
   ·split at this
    ·cases this
    ·rename_i h1 h2;exact ⟨by omega,by simpa using h2⟩
 ·intro h
  have h1:=h.sch
  have h2:=h.coh
  have h3:=h.num
  have h4:=h.len
  rw [if_neg (by omega),if_neg (by rw [h.prj,h.src];simp),if_neg (by omega),if_neg (by omega),if_neg (by omega)]
  refine u5 fun i q hi=>?_
  rw [Nat.zero_add]
  obtain ⟨q1,q2⟩:=h.qs i q hi
  unfold CV
  rw [if_neg (by omega),q2,if_neg (by simp)]
theorem YF {s:B2} {d:F4} (h:AM s d):(N6 s d).length ≤ 4100:=by
 have h1:=T9 h.prj
 have h2:=T9 h.src
 have h3:=Ae h.coh
 unfold N6
 simp only [List.length_append,List.length_cons,List.length_nil]
 omega
theorem Pw {s:B2} {d:F4} (h:AM s d):(T4 d).length ≤ 100:=by
 have h0:=h.num
 have h1:=Lib.itoa_length_le d.part (by omega) (by omega)
 have h2:=Lib.itoa_length_le d.of (by omega) (by omega)
 have h3:=Lib.itoa_length_le d.seed (by omega) (by omega)
 unfold T4
 simp only [List.length_append,List.length_cons,List.length_nil]
 omega
theorem Vp {s:B2} (hr:C8 s = 0) {l:List D3} (hl:l.length ≤ 8) (h:∀ q ∈ l,Dq s q):(G5 s l).length ≤ 70000:=by
 unfold G5
 have h1:=u7 (l:=l) (f:=fun q=>K3 s q ++ [10]) (n:=8201) fun q hq=>by
  have:=Pv hr (h q hq)
  rw [List.length_append,List.length_singleton];omega
 have h2:l.length * 8201 ≤ 8 * 8201:=Nat.mul_le_mul_right _ hl
 omega
end Go.Proofs.YthkklceofokkmaaGreatDoor
namespace Go.Proofs.YthkklceofokkmaaGreatDoor
open Go Go.Av
attribute [local irreducible] E5 B7 E6 E7 DQ E8 F0 St.le B3 B5
set_option maxRecDepth 100000
def AG (w:List UInt8):List UInt8 → Option (List UInt8 × List UInt8)
 | []=>if w.isPrefixOf [] = true then some ([],[]) else none
 | b :: r=>if w.isPrefixOf (b :: r) = true then some ([],(b :: r).drop w.length) else match AG w r with
   | none=>none
   | some (x,y)=>some (b :: x,y)
def K8 (w:List UInt8):Nat → List UInt8 → List (List UInt8)
 | 0,t=>[t]
 | n + 1,t=>match AG w t with
   | none=>[t]
   | some (x,y)=>x :: K8 w n y
def E1 (w t:List UInt8):List (List UInt8):=K8 w t.length t
theorem Jm {w t:List UInt8} (h:w.isPrefixOf t = true):t = w ++ t.drop w.length:=by
 have:(C7 w t).2 = true:=by unfold C7;rw [if_pos h]
 have e:=W5 this
 unfold C7 at e
 rw [if_pos h] at e
 exact e
theorem Gi {w:List UInt8}:∀ {t x y:List UInt8},AG w t = some (x,y) → t = x ++ w ++ y
 | [],x,y,h=>by
   rw [AG] at h
   split at h
   ·rename_i hp
    cases h
    have:=Jm hp
    cases w with
    | nil=>rfl
    | cons a r=>cases this
   ·cases h
 | b :: r,x,y,h=>by
   rw [AG] at h
   split at h
   ·rename_i hp
    cases h
    exact Jm hp
   ·cases hc:AG w r with
    | none=>rw [hc] at h;cases h
    | some z =>
      obtain ⟨x',y'⟩:=z
      rw [hc] at h
      cases h
      have:=Gi hc
      rw [this];rfl
theorem MH (w:List UInt8) (n:Nat) (t:List UInt8):K8 w n t ≠ []:=by
 cases n with
 | zero=>simp [K8]
 | succ n=>rw [K8];split <;> simp
theorem Gj {w:List UInt8}:∀ (n:Nat) (t:List UInt8),P9 w (K8 w n t) = t
 | 0,t=>rfl
 | n + 1,t=>by
   rw [K8]
   cases h:AG w t with
   | none=>rfl
   | some z =>
     obtain ⟨x,y⟩:=z
     dsimp only
     rw [Cp _ _ (MH w n y),Gj n y]
     exact (Gi h).symm
theorem SG {a b:UInt8} {w r:List UInt8} (h:¬ a = b):(a :: w).isPrefixOf (b :: r) = false:=by
 rw [List.isPrefixOf_cons_cons,beq_false_of_ne h];rfl
theorem MI {a:UInt8} {w:List UInt8}:∀ {t:List UInt8},t.all (B6 a) = true → AG (a :: w) t = none
 | [],_=>rfl
 | b :: r,h=>by
   rw [List.all_cons,Bool.and_eq_true] at h
   have hb:¬ a = b:=fun e=>by
    have h1:=h.1
    subst e
    unfold B6 at h1
    simp at h1
   rw [AG,SG hb,if_neg (by simp),MI h.2]
theorem Gk {a:UInt8} {w y:List UInt8}:∀ {x:List UInt8},x.all (B6 a) = true → AG (a :: w) (x ++ ((a :: w) ++ y)) = some (x,y)
 | [],_=>by
   have hp:(a :: w).isPrefixOf ((a :: w) ++ y) = true:=by
    have:=Z7 (a :: w) y
    unfold C7 at this
    split at this
    ·assumption
    ·exact absurd (Prod.mk.inj this).2 (by decide)
   have hp2:(a :: w).isPrefixOf (a :: (w ++ y)) = true:=hp
   rw [List.nil_append]
   show AG (a :: w) (a :: (w ++ y)) = _
   rw [AG,if_pos hp2]
   show some ([],List.drop (a :: w).length ((a :: w) ++ y)) = _
   rw [List.drop_left]
 | b :: r,h=>by
   rw [List.all_cons,Bool.and_eq_true] at h
   have hb:¬ a = b:=fun e=>by
    have h1:=h.1
    subst e
    unfold B6 at h1
    simp at h1
   rw [List.cons_append,AG,SG hb,if_neg (by simp),Gk h.2]
theorem Vq {a:UInt8} {w:List UInt8}:∀ (ps:List (List UInt8)) (n:Nat),ps ≠ [] → (∀ p ∈ ps,p.all (B6 a) = true) → ps.length ≤ n + 1 → K8 (a :: w) n (P9 (a :: w) ps) = ps
 | [],n,h,_,_=>absurd rfl h
 | [p],n,_,h,_=>by
   cases n with
   | zero=>rfl
   | succ n=>rw [K8,P9,MI (h p (by simp))]
 | p :: q :: r,0,_,_,hn=>by simp at hn
 | p :: q :: r,n + 1,_,h,hn=>by
   rw [P9,List.append_assoc,K8,Gk (h p (by simp))]
   dsimp only
   rw [Vq (q :: r) n (by simp) (fun x hx=>h x (by simp only [List.mem_cons] at hx ⊢;exact .inr hx)) (by simpa using hn)]
theorem MJ {a:UInt8} {w:List UInt8} {ps:List (List UInt8)} (hp:ps ≠ []) (h:∀ p ∈ ps,p.all (B6 a) = true):E1 (a :: w) (P9 (a :: w) ps) = ps :=
 Vq ps _ hp h (Vn _ (by simp) ps)
theorem Aq (w:List UInt8):∀ t:List UInt8,AG w t = if Lib.index t w = -1 then none else some (t.take (Lib.index t w).toNat,t.drop ((Lib.index t w).toNat + w.length))
 | []=>by
   cases w with
   | nil=>rfl
   | cons a r=>rfl
 | b :: r=>by
   rw [AG,Lib.index]
   by_cases hp:w.isPrefixOf (b :: r) = true
   ·rw [if_pos hp,if_pos hp,if_neg (by decide)]
    show _ = some (List.take 0 _,List.drop (0 + w.length) _)
    rw [Nat.zero_add];rfl
   ·rw [if_neg hp,if_neg hp,Aq w r]
    by_cases hi:Lib.index r w = -1
    ·rw [if_pos hi,if_pos (beq_iff_eq.2 hi),if_pos rfl]
    ·have hge:=Lib.index_ge r w
     rw [if_neg hi,if_neg (fun e=>hi (beq_iff_eq.1 e)),if_neg (by omega)]
     dsimp only
     rw [show (Lib.index r w + 1).toNat = (Lib.index r w).toNat + 1 by omega,List.take_succ_cons,show (Lib.index r w).toNat + 1 + w.length = (Lib.index r w).toNat + w.length + 1 by omega,List.drop_succ_cons]
theorem Hs (w:List UInt8):∀ (k:Nat) (t:List UInt8),Lib.splitK w 0 k t = K8 w k t
 | 0,_=>rfl
 | k + 1,t=>by
   rw [Lib.splitK,K8,Aq]
   by_cases hi:Lib.index t w = -1
   ·rw [if_pos (beq_iff_eq.2 hi),if_pos hi]
   ·rw [if_neg (fun e=>hi (beq_iff_eq.1 e)),if_neg hi]
    dsimp only
    rw [Nat.add_zero,Hs w k]
theorem Dr {w:List UInt8} (hw:w ≠ []):∀ (n:Nat) (t:List UInt8),Lib.count t w ≤ n → K8 w n t = K8 w (Lib.count t w) t
 | 0,t,h=>by rw [Nat.le_zero.1 h]
 | n + 1,t,h=>by
   by_cases hi:Lib.index t w = -1
   ·rw [Lib.count_miss hi,K8,K8,Aq,if_pos hi]
   ·have hge:=Lib.index_ge t w
    obtain ⟨i,he⟩:∃ i:Nat,Lib.index t w = i:=⟨(Lib.index t w).toNat,by omega⟩
    have hc:=Lib.count_hit hw he
    rw [hc,Nat.add_comm 1,K8,K8,Aq,if_neg hi,he]
    dsimp only
    rw [Int.toNat_natCast,Dr hw n _ (by omega)]
theorem Ht {w:List UInt8} (hw:w ≠ []):∀ (n:Nat) (t:List UInt8),t.length ≤ n → Lib.count t w ≤ t.length
 | 0,t,ht=>by
   have:t = []:=List.eq_nil_of_length_eq_zero (by omega)
   subst this
   rw [Lib.count_miss]
   ·exact Nat.le_refl _
   ·cases w with
    | nil=>exact absurd rfl hw
    | cons a r=>rfl
 | n + 1,t,ht=>by
   by_cases hi:Lib.index t w = -1
   ·rw [Lib.count_miss hi];exact Nat.zero_le _
   ·have hge:=Lib.index_ge t w
    obtain ⟨i,he⟩:∃ i:Nat,Lib.index t w = i:=⟨(Lib.index t w).toNat,by omega⟩
    have hr:=Lib.index_room t w (by omega)
    have hwl:1 ≤ w.length:=List.length_pos_iff.2 hw
    have:=Ht hw n (t.drop (i + w.length)) (by rw [List.length_drop];omega)
    rw [Lib.count_hit hw he]
    rw [List.length_drop] at this
    omega
theorem bF {w:List UInt8} (hw:w ≠ []) (t:List UInt8):Lib.split t w = E1 w t:=by
 unfold Lib.split E1
 rw [Hs,Dr hw t.length t (Ht hw _ t (Nat.le_refl _))]
theorem YG {w:List UInt8} (hw:w ≠ []) (n:Nat) (t:List UInt8):K8 w (min n (t.length + 1) - 1) t = K8 w (n - 1) t:=by
 by_cases h:n ≤ t.length + 1
 ·rw [Nat.min_eq_left h]
 ·rw [Nat.min_eq_right (by omega),Nat.add_sub_cancel]
  have hc:=Ht hw _ t (Nat.le_refl _)
  rw [Dr hw t.length t hc,Dr hw (n - 1) t (by omega)]
theorem BV (w:List UInt8):∀ (n:Nat) (t:List UInt8),(K8 w n t).length ≤ n + 1
 | 0,_=>Nat.le_refl _
 | n + 1,t=>by
   rw [K8]
   split
   ·simp
   ·have:=BV w n (by assumption)
    rename_i x y _
    have:=BV w n y
    rw [List.length_cons];omega
theorem SH {c:UInt8}:∀ (n:Nat) (t:List UInt8),t.length ≤ n → ∀ p ∈ K8 [c] n t,p.all (B6 c) = true
 | 0,t,h,p,hp=>by
   have:t = []:=List.eq_nil_of_length_eq_zero (by omega)
   subst this
   rw [K8,List.mem_singleton] at hp
   subst hp;rfl
 | n + 1,t,h,p,hp=>by
   rw [K8] at hp
   cases hc:AG [c] t with
   | none =>
     rw [hc] at hp
     dsimp only at hp
     rw [List.mem_singleton] at hp
     subst hp
     rw [List.all_eq_true]
     intro b hb
     by_cases hbc:b = c
     ·exfalso
      subst hbc
      obtain ⟨x,y,rfl⟩:=List.append_of_mem hb
      rw [Aq] at hc
      split at hc
      ·rename_i hi
       rcases Lib.index_spec (x ++ b :: y) [b] with ⟨_,h2⟩ | ⟨i,h1,_⟩
       ·have:=h2 x.length (by simp)
        unfold Lib.occAt at this
        rw [List.drop_left] at this
        simp at this
       ·omega
      ·cases hc
     ·unfold B6;rw [decide_eq_false hbc];rfl
   | some z =>
     obtain ⟨x,y⟩:=z
     rw [hc] at hp
     dsimp only at hp
     have hinv:=Gi hc
     have hlen:t.length = x.length + 1 + y.length:=by rw [hinv];simp only [List.length_append,List.length_singleton]
     rcases List.mem_cons.1 hp with rfl | hp
     ·rw [Aq] at hc
      split at hc
      ·cases hc
      ·rename_i hi
       cases hc
       rw [List.all_eq_true]
       intro b hb
       by_cases hbc:b = c
       ·exfalso
        subst hbc
        rcases Lib.index_spec t [b] with ⟨h1,_⟩ | ⟨i,h1,h2,h3,h4⟩
        ·exact hi h1
        ·rw [h1,Int.toNat_natCast] at hb
         obtain ⟨j,hj⟩:=List.mem_iff_getElem?.1 hb
         have hjl:=(List.getElem?_eq_some_iff.1 hj).1
         rw [List.length_take] at hjl
         have h5:=h4 j (by omega)
         rw [List.getElem?_take,if_pos (by omega)] at hj
         unfold Lib.occAt at h5
         rw [M9 hj] at h5
         simp at h5
       ·unfold B6;rw [decide_eq_false hbc];rfl
     ·exact SH n y (by omega) p hp
end Go.Proofs.YthkklceofokkmaaGreatDoor
