/- Chapter 5: the reference's counts of a condition. -/
import Derived.Test.YthkklceofokkmaaGreatDoorBC1
set_option linter.unusedVariables false
set_option linter.unnecessarySimpa false
set_option linter.unusedSimpArgs false
namespace Go.Proofs.YthkklceofokkmaaGreatDoor
open Go Go.Av
attribute [local irreducible] E5 B7 E6 E7 DQ E8 F0 St.le B3 B5
set_option maxRecDepth 100000
mutual
def CF:A4 → Int → Int
 | .mk _ _ _ _ _ ks,most=>Am ks most 1
def Am:List A4 → Int → Int → Int
 | [],_,n=>n
 | x :: r,most,n=>if n < most then Am r most (n + CF x (most - n)) else n
end
theorem Ji (c:A4) (m:Int):CF c m = Am c.kids m 1:=by cases c;rfl
theorem Xa (c:A4):∀ m:Int,1 ≤ CF c m ∧ CF c m ≤ max 1 m:=by
 refine Q3 (p:=fun c=>∀ m:Int,1 ≤ CF c m ∧ CF c m ≤ max 1 m) (fun c ih m=>?_) c
 have key:∀ (l:List A4),(∀ k ∈ l,k ∈ c.kids) → ∀ n:Int,1 ≤ n → n ≤ max 1 m → 1 ≤ Am l m n ∧ Am l m n ≤ max 1 m:=by
  intro l
  induction l with
  | nil=>intro _ n h1 h2;exact ⟨h1,h2⟩
  | cons x r ihl =>
    intro hl n h1 h2
    unfold Am
    split
    ·have:=ih x (hl x (by simp)) (m - n)
     exact ihl (fun k hk=>hl k (by simp [hk])) _ (by omega) (by omega)
    ·exact ⟨h1,h2⟩
 rw [Ji]
 exact key c.kids (fun k hk=>hk) 1 (by omega) (by omega)
theorem Xb (c:A4):∀ m:Int,1 ≤ m → CF c m = min (I8 c:Int) m:=by
 refine Q3 (p:=fun c=>∀ m:Int,1 ≤ m → CF c m = min (I8 c:Int) m) (fun c ih m hm=>?_) c
 have key:∀ (l:List A4),(∀ k ∈ l,k ∈ c.kids) → ∀ n:Int,n ≤ m → Am l m n = min (n + V9 l) m:=by
  intro l
  induction l with
  | nil=>intro _ n h;unfold Am V9;omega
  | cons x r ihl =>
    intro hl n hn
    unfold Am V9
    by_cases h:n < m
    ·have h1:=ih x (hl x (by simp)) (m - n) (by omega)
     rw [if_pos h,h1,ihl (fun k hk=>hl k (by simp [hk])) _ (by omega)]
     omega
    ·rw [if_neg h]
     omega
 rw [Ji,Bk,key c.kids (fun k hk=>hk) 1 hm]
 omega
set_option maxHeartbeats 4000000 in
theorem PM (c:A4):∀ (m:Int), -100000 ≤ m → m ≤ 100000 → B3 Tryz.prog 74 [L8 c, .i m] (.i (CF c m)):=by
 refine Q3 (p:=fun c=>∀ (m:Int), -100000 ≤ m → m ≤ 100000 → B3 Tryz.prog 74 [L8 c, .i m] (.i (CF c m))) (fun c ih m hm1 hm2=>?_) c
 rw [T6,Ji]
 refine F7 Tryz.func74 31 fun hrd E h0=>?_
 have hlen:c.kids.length ≤ 9223372036854775807:=by
  have:=((hrd _ (List.mem_cons_self ..)).agg (.sl 6 (c.kids.map P4)) (by simp)).sl
  simpa using this
 clear hrd
 repeat' ((first|refine A1 ?_|refine S1 ?_|refine Z1 ?_|refine Z2 ?_|(refine And.intro ?_ ?_<;>intro h<;>try first|(exfalso;omega)|exact absurd rfl h)|refine Z3 ?_|refine Z4 ?_|intro el hel hbB|intro el hel|intro ex|refine Z5 ?_|(refine A8 ?_ ?_;exact ⟨by kernel_rfl,by decide⟩)|refine A7 ?_ ?_|exact A6|refine A3 ?_ ?_|exact A2|(refine A0 ?_ ?_ ?_;kernel_rfl;kernel_rfl)) <;> (try (conv=>whnf)))
 refine D8 (ι:=Nat × Int) (fun x=>⟨[(1, .i m),(2, .ref 0 0),(5, .i x.2),(6, .i x.1)],1,[(0,some (.box (Ax c)))]⟩) (fun x=>x.1 ≤ c.kids.length ∧ (1 ≤ x.2 ∧ x.2 ≤ max 1 m) ∧ Am c.kids m 1 = Am (c.kids.drop x.1) m x.2) (fun x=>c.kids.length - x.1) (0,1) ⟨Nat.zero_le _,by dsimp only;omega,rfl⟩
  (A5 h0 rfl ⟨rfl,rfl,rfl,rfl,trivial⟩ ⟨rfl,trivial⟩ rfl rfl rfl) (fun x hI=>?_)
 obtain ⟨k,n⟩:=x
 obtain ⟨hk,hn,hI⟩:=hI
 dsimp only at hk hn hI ⊢
 have hrb:=fun el=>Xa el (m - n)
 repeat' ((first | (refine B0 (ih _ (List.mem_of_getElem? (by assumption)) _ (by omega) (by omega)) ?_) | (refine G2 ?_ ?_;(have:=hrb el;omega)) |refine A1 ?_|refine S1 ?_|refine Z1 ?_|refine Z2 ?_|(refine And.intro ?_ ?_<;>intro h<;>try first|(exfalso;omega)|exact absurd rfl h)|refine Z3 ?_|refine Z4 ?_|intro el hel hbB|intro el hel|intro ex|refine Z5 ?_|(refine A8 ?_ ?_;exact ⟨by kernel_rfl,by decide⟩)|refine A7 ?_ ?_|exact A6|refine A3 ?_ ?_|exact A2|(refine A0 ?_ ?_ ?_;kernel_rfl;kernel_rfl)) <;> (try (conv=>whnf)))
 all_goals first
  | exact A9 rfl (congrArg AV.i (by rw [hI,AW (by assumption)];rfl))
  | (obtain ⟨x,hx⟩:∃ x,c.kids[k]? = some x:=⟨_,List.getElem?_eq_getElem (by omega)⟩
     exact A9 rfl (congrArg AV.i (by rw [hI,M9 hx,Am,if_neg (by assumption)])))
  | exact ⟨(k + 1,n + CF el (m - n)),⟨by dsimp only;omega,(by have:=hrb el;dsimp only;omega),by rw [hI,M9 hel,Am,if_pos (by assumption)]⟩,by dsimp only;omega,A5 h0 rfl ⟨rfl,rfl,rfl,rfl,trivial⟩ ⟨rfl,trivial⟩ rfl rfl rfl⟩
set_option maxHeartbeats 4000000 in
theorem RG (c:A4):O8 c ≤ 100000 → B3 Tryz.prog 75 [L8 c] (.i (O8 c)):=by
 refine Q3 (p:=fun c=>O8 c ≤ 100000 → B3 Tryz.prog 75 [L8 c] (.i (O8 c))) (fun c ih hd=>?_) c
 have hge:=Ls c.kids 0
 rw [Dv] at hd
 rw [T6,Dv]
 refine F7 Tryz.func75 22 fun hrd E h0=>?_
 have hlen:c.kids.length ≤ 9223372036854775807:=by
  have:=((hrd _ (List.mem_cons_self ..)).agg (.sl 6 (c.kids.map P4)) (by simp)).sl
  simpa using this
 clear hrd
 repeat' ((first|refine A1 ?_|refine S1 ?_|refine Z1 ?_|refine Z2 ?_|(refine And.intro ?_ ?_<;>intro h<;>try first|(exfalso;omega)|exact absurd rfl h)|refine Z3 ?_|refine Z4 ?_|intro el hel hbB|intro el hel|intro ex|refine Z5 ?_|(refine A8 ?_ ?_;exact ⟨by kernel_rfl,by decide⟩)|refine A7 ?_ ?_|exact A6|refine A3 ?_ ?_|exact A2|(refine A0 ?_ ?_ ?_;kernel_rfl;kernel_rfl)) <;> (try (conv=>whnf)))
 refine D8 (ι:=Nat × Nat) (fun x=>⟨[(1, .ref 0 0),(3, .i x.2),(4, .i x.1)],1,[(0,some (.box (Ax c)))]⟩) (fun x=>x.1 ≤ c.kids.length ∧ x.2 ≤ S7 c.kids 0 ∧ S7 c.kids 0 = S7 (c.kids.drop x.1) x.2) (fun x=>c.kids.length - x.1) (0,0) ⟨Nat.zero_le _,Nat.zero_le _,rfl⟩
  (A5 h0 rfl ⟨rfl,rfl,rfl,trivial⟩ ⟨rfl,trivial⟩ rfl rfl rfl) (fun x hI=>?_)
 obtain ⟨k,n⟩:=x
 obtain ⟨hk,hn,hI⟩:=hI
 dsimp only at hk hn hI ⊢
 have hkd:∀ el,c.kids[k]? = some el → O8 el ≤ S7 c.kids 0:=fun el hel=>hge.2 el (List.mem_of_getElem? hel)
 repeat' ((first | (refine B0 (ih _ (List.mem_of_getElem? (by assumption)) (by have:=hkd el hel;omega)) ?_) |refine A1 ?_|refine S1 ?_|refine Z1 ?_|refine Z2 ?_|(refine And.intro ?_ ?_<;>intro h<;>try first|(exfalso;omega)|exact absurd rfl h)|refine Z3 ?_|refine Z4 ?_|intro el hel hbB|intro el hel|intro ex|refine Z5 ?_|(refine A8 ?_ ?_;exact ⟨by kernel_rfl,by decide⟩)|refine A7 ?_ ?_|exact A6|refine A3 ?_ ?_|exact A2|(refine A0 ?_ ?_ ?_;kernel_rfl;kernel_rfl)) <;> (try (conv=>whnf)))
 all_goals first
  | exact A9 rfl (congrArg AV.i (by rw [hI,AW (by assumption)];unfold S7;omega))
  | exact ⟨(k + 1,max n (O8 el)),⟨by dsimp only;omega,(by have:=hkd el hel;dsimp only;omega),by rw [hI,M9 hel,S7]⟩,by dsimp only;omega,A5 h0 rfl ⟨rfl,congrArg (fun z:Int=>some (AV.i z)) (by dsimp only;omega),rfl,trivial⟩ ⟨rfl,trivial⟩ rfl rfl rfl⟩
abbrev d0 (s:B2) (col kind:Int):Bool:=decide (0 ≤ col ∧ col < s.cols.length ∧ (C6 s col).kind = kind)
set_option maxHeartbeats 4000000 in
theorem ae (s:B2) (col kind:Int):B3 Tryz.prog 123 [sA s, .i col, .i kind] (.b (d0 s col kind)):=by
 refine F7 Tryz.func123 26 fun hrd E h0=>?_
 clear hrd
 repeat' ((first|refine A1 ?_|refine S1 ?_|refine Z1 ?_|refine Z2 ?_|(refine And.intro ?_ ?_<;>intro h<;>try first|(exfalso;omega)|exact absurd rfl h)|refine Z3 ?_|refine Z4 ?_|intro el hel hbB|intro el hel|intro ex|refine Z5 ?_|(refine A8 ?_ ?_;exact ⟨by kernel_rfl,by decide⟩)|refine A7 ?_ ?_|exact A6|refine A3 ?_ ?_|exact A2|(refine A0 ?_ ?_ ?_;kernel_rfl;kernel_rfl)) <;> (try (conv=>whnf)))
 all_goals first
  | exact A9 rfl (congrArg AV.b (by unfold d0;rw [decide_eq_false (by omega)]))
  | exact A9 rfl (congrArg AV.b (by unfold d0;rw [E0 hel,decide_eq_decide];omega))
end Go.Proofs.YthkklceofokkmaaGreatDoor
namespace Go.Proofs.YthkklceofokkmaaGreatDoor
open Go Go.Av
attribute [local irreducible] E5 B7 E6 E7 DQ E8 F0 St.le B3 B5
set_option maxRecDepth 100000
inductive O2 where
 | mk (op num:Int) (name:List UInt8) (col:Int) (cols:List Int) (dims:List Pk) (cnd evt:A4) (kids:List O2)
def O2.op:O2 → Int | .mk o _ _ _ _ _ _ _ _=>o
def O2.num:O2 → Int | .mk _ n _ _ _ _ _ _ _=>n
def O2.name:O2 → List UInt8 | .mk _ _ nm _ _ _ _ _ _=>nm
def O2.col:O2 → Int | .mk _ _ _ c _ _ _ _ _=>c
def O2.cols:O2 → List Int | .mk _ _ _ _ cs _ _ _ _=>cs
def O2.dims:O2 → List Pk | .mk _ _ _ _ _ ds _ _ _=>ds
def O2.cnd:O2 → A4 | .mk _ _ _ _ _ _ c _ _=>c
def O2.evt:O2 → A4 | .mk _ _ _ _ _ _ _ v _=>v
def O2.kids:O2 → List O2 | .mk _ _ _ _ _ _ _ _ ks=>ks
mutual
def fT:O2 → List AV
 | .mk o n nm c cs ds cd ev ks=>[.i o, .i n, .str nm, .i c, .sl 1 (cs.map wA), .sl 2 (ds.map P8), .i cd.op, .i cd.col, .i cd.code, .i cd.lo, .i cd.hi, .sl 6 (cd.kids.map D5), .i ev.op, .i ev.col, .i ev.code, .i ev.lo, .i ev.hi, .sl 6 (ev.kids.map D5), .sl 19 (Zd ks)]
def Zd:List O2 → List (List AV)
 | []=>[]
 | x :: r=>fT x :: Zd r
end
mutual
def Ta:O2 → A4
 | .mk _ _ _ _ _ _ _ _ ks=>.mk 0 0 0 0 0 (VT ks)
def VT:List O2 → List A4
 | []=>[]
 | x :: r=>Ta x :: VT r
end
structure fH where
 name:List UInt8
 out:Bool
 x:O2
abbrev U7 (c:A4):Prop:=c.op = 0 ∧ c.col = 0 ∧ c.code = 0 ∧ c.lo = 0 ∧ c.hi = 0 ∧ c.kids.length = 0
abbrev ep (op:Int):Prop:=op = 1 ∨ op = 13
abbrev dG (op:Int):Prop:=op = 2
abbrev Tb (op:Int):Prop:=4 ≤ op ∧ op ≤ 5 ∨ 10 ≤ op ∧ op ≤ 14
abbrev dH (op:Int):Prop:=op = 11
abbrev dI (op:Int):Prop:=op = 10
abbrev Tc (op:Int):Prop:=3 ≤ op ∧ op ≤ 5 ∨ 10 ≤ op ∧ op ≤ 14
abbrev Td (op:Int):Prop:=op = 12
abbrev GF (op:Int):Prop:=6 ≤ op ∧ op ≤ 9
abbrev dJ (e:O2):Prop:=(ep e.op ∨ e.num = 0) ∧ (dG e.op ∨ e.name.length = 0) ∧ (Tb e.op ∨ e.col = 0) ∧ (dH e.op ∨ e.cols.length = 0) ∧ (dI e.op ∨ e.dims.length = 0) ∧ (Tc e.op ∨ U7 e.cnd) ∧ (Td e.op ∨ U7 e.evt) ∧ (GF e.op ∨ e.kids.length = 0)
def s8 (s:B2) (l:List Pk) (i:Nat) (d:Pk):Int:=if W4 s d ≠ 0 then W4 s d else if (C6 s d.col).kind ≠ 2 then 7 else if ((l.take i).any fun x=>decide (x.col = d.col)) = true then 10 else 0
def i6 (s:B2) (l:List Pk):Int:=if l.length < 1 ∨ 3 < l.length then 1 else I2 (s8 s l) 0 l
def s9 (s:B2) (m:Int) (l:List Int) (i:Nat) (c:Int):Int:=if d0 s c 3 = false then 7 else if c = m ∨ ((l.take i).any fun x=>decide (x = c)) = true then 10 else 0
def m4 (s:B2) (m:Int) (l:List Int):Int:=if l.length < 1 ∨ 3 < l.length then 1 else I2 (s9 s m l) 0 l
def Xd (s:B2) (e:O2):Bool :=
 if e.op = 1 then decide (-1099511627776 ≤ e.num ∧ e.num ≤ 1099511627776) else if e.op = 2 then C9 e.name
 else if e.op = 4 ∨ e.op = 5 ∨ e.op = 14 then d0 s e.col 3
 else if e.op = 10 then decide (i6 s e.dims = 0) && (decide (e.col = -1) || d0 s e.col 3)
 else if e.op = 11 then d0 s e.col 3 && decide (m4 s e.col e.cols = 0)
 else if e.op = 12 then d0 s e.col 3 && decide (0 ≤ (C6 s e.col).low)
 else if e.op = 13 then d0 s e.col 3 && (C6 s e.col).widths.any fun x=>decide (x = e.num)
 else true
def fU (s:B2) (e:O2):Bool:=decide (1 ≤ e.op ∧ e.op ≤ 14) && decide (dJ e) && Xd s e && (decide (¬ Tc e.op) || decide (H0 s e.cnd = 0)) && (decide (¬ Td e.op) || decide (H0 s e.evt = 0)) && (decide (¬ GF e.op) || decide (e.kids.length = 2))
abbrev Te (op:Int):Prop:=1 ≤ op ∧ op ≤ 9
mutual
def Tf (s:B2):O2 → Bool
 | .mk o n nm c cs ds cd ev ks=>fU s (.mk o n nm c cs ds cd ev ks) && !(dK s ks)
def dK (s:B2):List O2 → Bool
 | []=>false
 | x :: r=>(!decide (Te x.op) || !Tf s x) || dK s r
end
def fV (s:B2) (e:O2):Bool:=decide (C8 s = 0) && Tf s e
mutual
def dL (g:List UInt8 → Bool):O2 → Bool
 | .mk o n nm c cs ds cd ev ks=>!(decide (o = 2) && !g nm) && !(dM g ks)
def dM (g:List UInt8 → Bool):List O2 → Bool
 | []=>false
 | x :: r=>(!dL g x) || dM g r
end
theorem Xe {s:B2} {p:Pk} (h:W4 s p = 0):∃ c,0 ≤ p.col ∧ s.cols[p.col.toNat]? = some c:=by
 unfold W4 Fc R7 at h
 by_cases hc:p.col < 1 ∨ (s.cols.length:Int) ≤ p.col
 ·rw [if_pos hc] at h
  split at h
  ·rw [if_pos (show (-1:Int) < 0 by omega)] at h
   omega
  ·exact absurd h (by assumption)
 ·exact ⟨_,by omega,List.getElem?_eq_getElem (by omega)⟩
theorem Tg (l:List Int) (v:Int):B3 Tryz.prog 126 [.sl 1 (l.map wA), .i v] (.i (K2 (fun x=>decide (x = v)) l 0)):=by
 refine F7 Tryz.func126 19 fun hrd E h0=>?_
 have hlen:l.length ≤ 9223372036854775807:=by
  have:=(hrd (.sl 1 (l.map wA)) (by simp)).sl
  simpa using this
 clear hrd
 repeat' ((first|refine A1 ?_|refine S1 ?_|refine Z1 ?_|refine Z2 ?_|(refine And.intro ?_ ?_<;>intro h<;>try first|(exfalso;omega)|exact absurd rfl h)|refine Z3 ?_|refine Z4 ?_|intro el hel hbB|intro el hel|intro ex|refine Z5 ?_|(refine A8 ?_ ?_;exact ⟨by kernel_rfl,by decide⟩)|refine A7 ?_ ?_|exact A6|refine A3 ?_ ?_|exact A2|(refine A0 ?_ ?_ ?_;kernel_rfl;kernel_rfl)) <;> (try (conv=>whnf)))
 refine D8 (ι:=Nat) (fun k=>⟨[(0, .sl 1 (l.map wA)),(1, .i v),(7, .i l.length),(8, .i k)],0,[]⟩) (fun k=>k ≤ l.length ∧ K2 (fun x=>decide (x = v)) l 0 = K2 (fun x=>decide (x = v)) (l.drop k) k) (fun k=>l.length - k) 0 ⟨Nat.zero_le _,rfl⟩
  (A5 h0 rfl ⟨rfl,rfl,rfl,rfl,trivial⟩ trivial rfl rfl rfl) (fun k hI=>?_)
 obtain ⟨hk,hI⟩:=hI
 repeat' ((first | (refine J2 ?_ ?_;kernel_rfl) |refine A1 ?_|refine S1 ?_|refine Z1 ?_|refine Z2 ?_|(refine And.intro ?_ ?_<;>intro h<;>try first|(exfalso;omega)|exact absurd rfl h)|refine Z3 ?_|refine Z4 ?_|intro el hel hbB|intro el hel|intro ex|refine Z5 ?_|(refine A8 ?_ ?_;exact ⟨by kernel_rfl,by decide⟩)|refine A7 ?_ ?_|exact A6|refine A3 ?_ ?_|exact A2|(refine A0 ?_ ?_ ?_;kernel_rfl;kernel_rfl)) <;> (try (conv=>whnf)))
 all_goals first
  | exact ⟨k + 1,⟨by omega,by rw [hI,M9 hel,K2,if_neg (by rw [decide_eq_true_iff];omega)];rfl⟩,by omega,A5 h0 rfl ⟨rfl,rfl,rfl,rfl,trivial⟩ trivial rfl rfl rfl⟩
  | exact A9 rfl (congrArg AV.i (by rw [hI,M9 hel,K2,if_pos (by rw [decide_eq_true_iff];omega)]))
  | exact A9 rfl (congrArg AV.i (by rw [hI,show k = l.length by omega,List.drop_length];rfl))
theorem Ng (l:List Int) (v:Int):B3 Tryz.prog 82 [.sl 1 (l.map wA), .i v] (.b (l.any fun x=>decide (x = v))):=by
 have h:=Tg l v
 refine F7 Tryz.func82 9 fun hrd E h0=>?_
 clear hrd
 repeat' ((first | refine B0 h ?_ |refine A1 ?_|refine S1 ?_|refine Z1 ?_|refine Z2 ?_|(refine And.intro ?_ ?_<;>intro h<;>try first|(exfalso;omega)|exact absurd rfl h)|refine Z3 ?_|refine Z4 ?_|intro el hel hbB|intro el hel|intro ex|refine Z5 ?_|(refine A8 ?_ ?_;exact ⟨by kernel_rfl,by decide⟩)|refine A7 ?_ ?_|exact A6|refine A3 ?_ ?_|exact A2|(refine A0 ?_ ?_ ?_;kernel_rfl;kernel_rfl)) <;> (try (conv=>whnf)))
 all_goals first
  | exact A9 rfl (congrArg AV.b (Ch _ l 0 (by omega)))
theorem Nh (l:List Int) (k:Nat) (v:Int):B3 Tryz.prog 82 [.sl 1 ((l.map wA).take k), .i v] (.b ((l.take k).any fun x=>decide (x = v))):=by
 have h:=Ng (l.take k) v
 rw [List.map_take] at h
 exact h
instance:J6 Tryz.prog 80 false 1:=.of (by kernel_rfl) (by kernel_rfl)
end Go.Proofs.YthkklceofokkmaaGreatDoor
namespace Go.Proofs.YthkklceofokkmaaGreatDoor
open Go Go.Av
attribute [local irreducible] E5 B7 E6 E7 DQ E8 F0 St.le B3 B5
set_option maxRecDepth 100000
structure D3 where
 name:List UInt8
 kind:Int
 flt:A4
 dims:List Pk
 mea:Int
 trms:List Int
 evt:A4
abbrev C4 (q:D3):List AV:=[.str q.name, .i q.kind, .i q.flt.op, .i q.flt.col, .i q.flt.code, .i q.flt.lo, .i q.flt.hi, .sl 6 (q.flt.kids.map D5), .sl 2 (q.dims.map P8), .i q.mea, .sl 1 (q.trms.map wA), .i q.evt.op, .i q.evt.col, .i q.evt.code, .i q.evt.lo, .i q.evt.hi, .sl 6 (q.evt.kids.map D5)]
abbrev W7 (q:D3):AV:=.agg (C4 q)
structure F4 where
 prj:List UInt8
 src:List UInt8
 coh:A4
 part:Int
 of:Int
 seed:Int
 qs:List D3
abbrev k0 (d:F4):List AV:=[.str d.prj, .str d.src, .i d.coh.op, .i d.coh.col, .i d.coh.code, .i d.coh.lo, .i d.coh.hi, .sl 6 (d.coh.kids.map D5), .i d.part, .i d.of, .i d.seed, .sl 17 (d.qs.map C4)]
abbrev M5 (d:F4):AV:=.agg (k0 d)
def S8 (s:B2) (c:Int):Int:=if 0 ≤ c ∧ c < s.cols.length then (C6 s c).kind else 0
theorem HZ (s:B2) (c k:Int) (hk:k ≠ 0):d0 s c k = decide (S8 s c = k):=by
 unfold d0 S8
 rw [decide_eq_decide]
 split <;> omega
def Ha (s:B2) (q:D3):Int:=if ¬ i6 s q.dims = 0 then i6 s q.dims else if ¬ q.mea = -1 ∧ ¬ S8 s q.mea = 3 then 7 else if 0 < q.trms.length ∨ ¬ U7 q.evt then 11 else 0
def GX (s:B2) (q:D3):Int:=if ¬ S8 s q.mea = 3 then 7 else if ¬ m4 s q.mea q.trms = 0 then m4 s q.mea q.trms else if 0 < q.dims.length ∨ ¬ U7 q.evt then 11 else 0
def Hb (s:B2) (q:D3):Int:=if ¬ S8 s q.mea = 3 then 7 else if (C6 s q.mea).low < 0 then 2 else if ¬ H0 s q.evt = 0 then H0 s q.evt else if 0 < q.dims.length ∨ 0 < q.trms.length then 11 else 0
def W8 (s:B2) (q:D3):Int:=if ¬ C8 s = 0 then C8 s else if C9 q.name = false then 3 else if q.kind < 1 ∨ 3 < q.kind then 4 else if ¬ H0 s q.flt = 0 then H0 s q.flt else if q.kind = 1 then Ha s q else if q.kind = 2 then GX s q else Hb s q
def CV (s:B2) (l:List D3) (i:Nat) (q:D3):Int:=if ¬ W8 s q = 0 then W8 s q else if ((l.take i).any fun x=>decide (x.name = q.name)) = true then 10 else 0
def U8 (s:B2) (d:F4):Int:=if ¬ C8 s = 0 then C8 s else if C9 d.prj = false ∨ C9 d.src = false then 3 else if ¬ H0 s d.coh = 0 then H0 s d.coh else if d.of < 1 ∨ 1000 < d.of ∨ d.part < 1 ∨ d.of < d.part ∨ d.seed < 0 ∨ 1099511627776 < d.seed then 2 else if d.qs.length = 0 ∨ 8 < d.qs.length then 1 else I2 (CV s d.qs) 0 d.qs
end Go.Proofs.YthkklceofokkmaaGreatDoor
namespace Go.Proofs.YthkklceofokkmaaGreatDoor
open Go Go.Av
attribute [local irreducible] E5 B7 E6 E7 DQ E8 F0 St.le B3 B5
set_option maxRecDepth 100000
theorem GY {s:B2} {c:A4} (h:K0 s c = 0):(1 ≤ c.op ∧ c.op ≤ 7) ∧ (c.kids.length:Int) = U6 c.op ∧ (c.op = 2 ∨ c.op = 3 ∨ c.op = 4 → 0 ≤ c.col ∧ c.col < s.cols.length) ∧ (c.op = 2 → (C6 s c.col).kind = 2 ∧ 0 ≤ c.code ∧ c.code < (D7 s (C6 s c.col)).2.length) ∧ (c.op = 3 → (C6 s c.col).kind = 3 ∧ c.lo ≤ c.hi ∧ -1000000 ≤ c.lo ∧ c.hi ≤ 1000000) ∧ (c.op = 4 → (C6 s c.col).kind = 3 ∧ (C6 s c.col).opt = true):=by
 unfold K0 at h
 by_cases h1:c.op < 1 ∨ 7 < c.op
 ·rw [if_pos h1] at h;cases h
 rw [if_neg h1] at h
 split at h
 ·cases h
 rename_i h2
 by_cases h3:c.op ≠ 2 ∧ c.op ≠ 3 ∧ c.op ≠ 4
 ·exact ⟨by omega,by omega,fun _=>by omega,fun _=>by omega,fun _=>by omega,fun _=>by omega⟩
 rw [if_neg h3] at h
 by_cases h4:c.col < 0 ∨ (s.cols.length:Int) ≤ c.col
 ·rw [if_pos h4] at h;cases h
 rw [if_neg h4] at h
 by_cases h5:c.op = 2
 ·rw [if_pos h5] at h
  split at h
  ·cases h
  split at h
  ·cases h
  exact ⟨by omega,by omega,fun _=>by omega,fun _=>by omega,fun _=>by omega,fun _=>by omega⟩
 rw [if_neg h5] at h
 by_cases h6:c.op = 3
 ·rw [if_pos h6] at h
  split at h
  ·cases h
  split at h
  ·cases h
  exact ⟨by omega,by omega,fun _=>by omega,fun _=>by omega,fun _=>by omega,fun _=>by omega⟩
 rw [if_neg h6] at h
 split at h
 ·cases h
 rename_i h7
 refine ⟨by omega,by omega,fun _=>by omega,fun _=>by omega,fun _=>by omega,fun _=>⟨?_,?_⟩⟩
 ·exact Decidable.of_not_not fun hh=>h7 (.inl hh)
 ·cases ho:(C6 s c.col).opt
  ·exact absurd (.inr ho) h7
  ·rfl
theorem PN {s:B2}:∀ {l:List A4},Y4 s l = 0 → ∀ k ∈ l,j9 s k = 0
 | [],_,k,hk=>by cases hk
 | x :: r,h,k,hk=>by
   unfold Y4 at h
   by_cases hx:j9 s x = 0
   ·rw [if_pos hx] at h
    rcases List.mem_cons.1 hk with rfl | hk
    ·exact hx
    ·exact PN h k hk
   ·rw [if_neg hx] at h;exact absurd h hx
theorem LA {s:B2} {c:A4} (h:j9 s c = 0):K0 s c = 0 ∧ ∀ k ∈ c.kids,j9 s k = 0:=by
 rw [Dw] at h
 by_cases h1:K0 s c = 0
 ·rw [if_pos h1] at h
  exact ⟨h1,PN h⟩
 ·rw [if_neg h1] at h;exact absurd h h1
theorem Dm {s:B2} {c:A4} (h:H0 s c = 0):C8 s = 0 ∧ I8 c ≤ 40 ∧ O8 c ≤ 10 ∧ j9 s c = 0:=by
 unfold H0 at h
 by_cases h1:C8 s = 0
 ·rw [if_pos h1] at h
  split at h
  ·cases h
  split at h
  ·cases h
  exact ⟨h1,by omega,by omega,h⟩
 ·rw [if_neg h1] at h;exact absurd h h1
def er (op:Int) (vs:List Int) (one:Int):Int:=if op = 1 then 1 else if op = 5 then min (vs.getD 0 0) (vs.getD 1 0) else if op = 6 then max (vs.getD 0 0) (vs.getD 1 0) else if op = 7 then -(vs.getD 0 0) else one
mutual
def fW (g:A4 → Int):A4 → Int
 | .mk o c k l h ks=>er o (dN g ks) (g (.mk o c k l h ks))
def dN (g:A4 → Int):List A4 → List Int
 | []=>[]
 | x :: r=>fW g x :: dN g r
end
end Go.Proofs.YthkklceofokkmaaGreatDoor
