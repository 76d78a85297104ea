/- Chapter 2: the least level, coarse values. Chapter 2: values turned to another level, picks. -/
import Derived.Test.YthkklceofokkmaaGreatDoorBB7
set_option linter.unusedVariables false
set_option linter.unnecessarySimpa false
set_option linter.unusedSimpArgs false
namespace Go.Proofs.YthkklceofokkmaaGreatDoor
open Go Go.Av
attribute [local irreducible] E5 B7 E6 E7 DQ E8 F0 St.le B3 B5
set_option maxRecDepth 100000
def VQ (s:B2) (c:G9):Nat → Nat
 | 0=>0
 | k + 1=>if Aw s c k = Aw s c (k + 1:Nat) then VQ s c k else k + 1
def PJ (s:B2) (column level:Int):Int:=if level < 0 ∨ I3 s column < level then -1 else VQ s (C6 s column) level.toNat
theorem aV {s:B2} (h:C8 s = 0) (column:Int):R7 s column ≤ 61:=by
 unfold R7
 split
 ·omega
 ·have hc:s.cols[column.toNat]? = some s.cols[column.toNat]:=List.getElem?_eq_getElem (by omega)
  have hcr:=NC h (by omega) hc
  rw [E0 hc]
  generalize s.cols[column.toNat] = c at hcr
  unfold Au
  rcases hcr with hcr | hcr
  ·rw [if_pos hcr.1]
   have hl:s.lists[c.lst.toNat]? = some (s.lists[c.lst.toNat]'(by omega)):=List.getElem?_eq_getElem (by omega)
   have hk:=(R3 h).2.2.1 _ (List.mem_of_getElem? hl)
   rw [Q1 hl]
   have h1:=(j7 hk).2.2
   have:=GT (nm:=(s.lists[c.lst.toNat]'(by omega)).1) (cs:=(s.lists[c.lst.toNat]'(by omega)).2) (by omega)
   omega
  ·rw [if_neg (by omega)];omega
def Y3 (s:B2) (c:G9) (level v:Int):Int:=if c.kind = 2 then (if TS s c v = true then BC (D7 s c).1 (D7 s c).2 v level else -1) else if v ≠ (-1099511627776) ∧ (v < -1000000 ∨ 1000000 < v) then -1 else if level = 0 then 0 else if v = (-1099511627776) then (-1099511627776) else G1 v (G0 c level)
def Lq (s:B2) (column level v:Int):Int:=if level < 0 ∨ I3 s column < level then -1 else Y3 s (C6 s column) level v
def GU (c:G9) (level v:Int):Int × Int × Bool :=
 if level = 0 then (c.low,c.high,decide (v = 0)) else if v < -2000000 ∨ 1000000 < v then (0,0,false) else (max v c.low,min (v + G0 c level - 1) c.high,decide (G1 v (G0 c level) = v) && decide (max v c.low ≤ min (v + G0 c level - 1) c.high))
def GV (c:G9) (fr v to:Int):Int × Bool :=
 if 0 < fr ∧ v = (-1099511627776) then (if to = 0 then (0,c.opt) else (v,c.opt)) else
  if (GU c fr v).2.2 = false then (0,false) else if to = 0 then (0,true) else if fr = 0 ∧ c.opt = true then (0,false) else
   (G1 (GU c fr v).1 (G0 c to),decide (G1 (GU c fr v).1 (G0 c to) = G1 (GU c fr v).2.1 (G0 c to)))
def Ia (nm:List UInt8) (cs:List Code) (fr v to:Int):List Nat → Int → Bool → Int × Bool
 | [],out,sm=>(out,sm)
 | leaf :: r,out,sm=>if BC nm cs leaf fr = v then (if sm = true ∧ BC nm cs leaf to ≠ out then (0,false) else Ia nm cs fr v to r (BC nm cs leaf to) true) else Ia nm cs fr v to r out sm
def GW (nm:List UInt8) (cs:List Code) (fr v to:Int):Int × Bool:=Ia nm cs fr v to (V2 nm cs (G7 nm cs - 1)) 0 false
theorem TU (nm:List UInt8) (cs:List Code) (level:Int):(V2 nm cs level).length ≤ cs.length:=by
 unfold V2
 split
 ·exact ct _ _ _
 ·simp
def Rr (s:B2) (column fr v to:Int):Int × Bool :=
 if fr < 0 ∨ R7 s column < fr ∨ to < 0 ∨ R7 s column < to then (0,false) else
  if (if (C6 s column).kind = 2 then GW (D7 s (C6 s column)).1 (D7 s (C6 s column)).2 fr v to else GV (C6 s column) fr v to).2 = true then ((if (C6 s column).kind = 2 then GW (D7 s (C6 s column)).1 (D7 s (C6 s column)).2 fr v to else GV (C6 s column) fr v to).1,true) else (0,false)
def Zb (s:B2) (column fr v to:Int):Int × Bool:=if C8 s = 0 then Rr s column fr v to else (0,false)
structure Pk where
 col:Int
 lev:Int
deriving DecidableEq
abbrev P8 (p:Pk):List AV:=[.i p.col, .i p.lev]
abbrev Zc (p:Pk):AV:=.agg (P8 p)
def Fc (s:B2) (p:Pk):Int:=if R7 s p.col < 0 then 7 else if p.lev < 0 ∨ R7 s p.col < p.lev then 8 else 0
set_option maxHeartbeats 4000000 in
theorem VR (s:B2) (p:Pk) (hr:C8 s = 0):B3 Tryz.prog 124 [sA s,Zc p] (.i (Fc s p)):=by
 have hfin:=RE s p.col hr
 refine F7 Tryz.func124 23 fun hrd E h0=>?_
 clear hrd
 repeat' ((first | refine B0 hfin ?_ |refine A1 ?_|refine S1 ?_|refine Z1 ?_|refine Z2 ?_|(refine And.intro ?_ ?_<;>intro h<;>try first|(exfalso;omega)|exact absurd rfl h)|refine Z3 ?_|refine Z4 ?_|intro el hel hbB|intro el hel|intro ex|refine Z5 ?_|(refine A8 ?_ ?_;exact ⟨by kernel_rfl,by decide⟩)|refine A7 ?_ ?_|exact A6|refine A3 ?_ ?_|exact A2|(refine A0 ?_ ?_ ?_;kernel_rfl;kernel_rfl)) <;> (try (conv=>whnf)))
 all_goals first
  | (refine A9 rfl (congrArg AV.i ?_);rw [Fc,if_pos (by assumption)];done)
  | (refine A9 rfl (congrArg AV.i ?_);rw [Fc,if_neg (by assumption),if_pos (by omega)];done)
  | (refine A9 rfl (congrArg AV.i ?_);rw [Fc,if_neg (by assumption),if_neg (by omega)];done)
def W4 (s:B2) (p:Pk):Int:=if C8 s = 0 then Fc s p else C8 s
set_option maxHeartbeats 4000000 in
theorem TV (s:B2) (p:Pk):B3 Tryz.prog 77 [sA s,Zc p] (.i (W4 s p)):=by
 have hpk:=fun hr=>VR s p hr
 refine F7 Tryz.func77 14 fun hrd E h0=>?_
 clear hrd
 repeat' ((first | refine B0 (AB s) ?_ | refine B0 (hpk (Classical.byContradiction (by assumption))) ?_ |refine A1 ?_|refine S1 ?_|refine Z1 ?_|refine Z2 ?_|(refine And.intro ?_ ?_<;>intro h<;>try first|(exfalso;omega)|exact absurd rfl h)|refine Z3 ?_|refine Z4 ?_|intro el hel hbB|intro el hel|intro ex|refine Z5 ?_|(refine A8 ?_ ?_;exact ⟨by kernel_rfl,by decide⟩)|refine A7 ?_ ?_|exact A6|refine A3 ?_ ?_|exact A2|(refine A0 ?_ ?_ ?_;kernel_rfl;kernel_rfl)) <;> (try (conv=>whnf)))
 all_goals first
  | (refine A9 rfl (congrArg AV.i ?_);rw [W4,if_neg (by assumption)];done)
  | (refine A9 rfl (congrArg AV.i ?_);rw [W4,if_pos (Classical.byContradiction (by assumption))];done)
end Go.Proofs.YthkklceofokkmaaGreatDoor
namespace Go.Proofs.YthkklceofokkmaaGreatDoor
open Go Go.Av
attribute [local irreducible] E5 B7 E6 E7 DQ E8 F0 St.le B3 B5
set_option maxRecDepth 100000
inductive A4 where
 | mk (op col code lo hi:Int) (kids:List A4)
def A4.op:A4 → Int | .mk o _ _ _ _ _=>o
def A4.col:A4 → Int | .mk _ c _ _ _ _=>c
def A4.code:A4 → Int | .mk _ _ k _ _ _=>k
def A4.lo:A4 → Int | .mk _ _ _ l _ _=>l
def A4.hi:A4 → Int | .mk _ _ _ _ h _=>h
def A4.kids:A4 → List A4 | .mk _ _ _ _ _ ks=>ks
mutual
def D5:A4 → List AV
 | .mk o c k l h ks=>[.i o, .i c, .i k, .i l, .i h, .sl 6 (Nw ks)]
def Nw:List A4 → List (List AV)
 | []=>[]
 | x :: r=>D5 x :: Nw r
end
theorem PK:∀ ks,Nw ks = ks.map D5
 | []=>rfl
 | x :: r=>by rw [Nw,PK r];rfl
def P4 (c:A4):List AV:=[.i c.op, .i c.col, .i c.code, .i c.lo, .i c.hi, .sl 6 (c.kids.map D5)]
theorem Fd (c:A4):D5 c = P4 c:=by
 cases c
 rw [D5,PK];rfl
theorem aW (ks:List A4):ks.map D5 = ks.map P4:=List.map_congr_left fun c _=>Fd c
abbrev L8 (c:A4):AV:=.agg (P4 c)
abbrev Ax (c:A4):List AV:=[.i c.op, .i c.col, .i c.code, .i c.lo, .i c.hi, .sl 6 (c.kids.map P4)]
theorem T6 (c:A4):L8 c = .agg (Ax c):=by
 show AV.agg [.i c.op, .i c.col, .i c.code, .i c.lo, .i c.hi, .sl 6 (c.kids.map D5)] = _
 rw [aW]
theorem TW {c k:A4} (h:k ∈ c.kids):SizeOf.sizeOf k < SizeOf.sizeOf c:=by
 cases c with
 | mk o c k l h' ks =>
   have:=List.sizeOf_lt_of_mem (show _ ∈ ks from h)
   simp only [A4.mk.sizeOf_spec]
   omega
theorem Q3 {p:A4 → Prop} (h:∀ c,(∀ k ∈ c.kids,p k) → p c) (c:A4):p c :=
 h c fun k _=>Q3 h k
termination_by SizeOf.sizeOf c
decreasing_by exact TW (by assumption)
mutual
def AE:A4 → Int → Int
 | .mk _ _ _ _ _ ks,most=>AF ks most 1
def AF:List A4 → Int → Int → Int
 | [],_,n=>n
 | x :: r,most,n=>if most < n then n else AF r most (n + AE x (most - n))
end
theorem Lr (c:A4) (m:Int):AE c m = AF c.kids m 1:=by cases c;rfl
theorem Ib (c:A4):∀ m:Int,1 ≤ AE c m ∧ AE c m ≤ max 1 (m + 1):=by
 refine Q3 (p:=fun c=>∀ m:Int,1 ≤ AE c m ∧ AE c m ≤ max 1 (m + 1)) (fun c ih m=>?_) c
 have key:∀ (l:List A4),(∀ k ∈ l,k ∈ c.kids) → ∀ n:Int,1 ≤ n → n ≤ max 1 (m + 1) → 1 ≤ AF l m n ∧ AF l m n ≤ max 1 (m + 1):=by
  intro l
  induction l with
  | nil=>intro _ n h1 h2;exact ⟨h1,h2⟩
  | cons x r ihl =>
    intro hl n h1 h2
    unfold AF
    split
    ·exact ⟨h1,h2⟩
    ·have:=ih x (hl x (by simp)) (m - n)
     exact ihl (fun k hk=>hl k (by simp [hk])) _ (by omega) (by omega)
 rw [Lr]
 exact key c.kids (fun k hk=>hk) 1 (by omega) (by omega)
mutual
def O8:A4 → Nat
 | .mk _ _ _ _ _ ks=>S7 ks 0 + 1
def S7:List A4 → Nat → Nat
 | [],n=>n
 | x :: r,n=>S7 r (max n (O8 x))
end
theorem Dv (c:A4):O8 c = S7 c.kids 0 + 1:=by cases c;rfl
theorem Ls:∀ (l:List A4) (n:Nat),n ≤ S7 l n ∧ ∀ k ∈ l,O8 k ≤ S7 l n
 | [],n=>⟨Nat.le_refl _,fun k hk=>by cases hk⟩
 | x :: r,n=>by
   obtain ⟨h1,h2⟩:=Ls r (max n (O8 x))
   unfold S7
   refine ⟨by omega,fun k hk=>?_⟩
   rcases List.mem_cons.1 hk with rfl | hk
   ·omega
   ·exact h2 k hk
set_option maxHeartbeats 4000000 in
theorem RF (c:A4):∀ (m:Int), -100000 ≤ m → m ≤ 100000 → B3 Tryz.prog 68 [L8 c, .i m] (.i (AE c m)):=by
 refine Q3 (p:=fun c=>∀ (m:Int), -100000 ≤ m → m ≤ 100000 → B3 Tryz.prog 68 [L8 c, .i m] (.i (AE c m))) (fun c ih m hm1 hm2=>?_) c
 rw [T6,Lr]
 refine F7 Tryz.func68 27 fun hrd E h0=>?_
 have hlen:c.kids.length ≤ 9223372036854775807:=by
  have:=((hrd _ (List.mem_cons_self ..)).agg (.sl 6 (c.kids.map P4)) (by simp)).sl
  simpa using this
 clear hrd
 repeat' ((first|refine A1 ?_|refine S1 ?_|refine Z1 ?_|refine Z2 ?_|(refine And.intro ?_ ?_<;>intro h<;>try first|(exfalso;omega)|exact absurd rfl h)|refine Z3 ?_|refine Z4 ?_|intro el hel hbB|intro el hel|intro ex|refine Z5 ?_|(refine A8 ?_ ?_;exact ⟨by kernel_rfl,by decide⟩)|refine A7 ?_ ?_|exact A6|refine A3 ?_ ?_|exact A2|(refine A0 ?_ ?_ ?_;kernel_rfl;kernel_rfl)) <;> (try (conv=>whnf)))
 refine D8 (ι:=Nat × Int) (fun x=>⟨[(1, .i m),(5, .i x.2),(9, .sl 6 (c.kids.map P4)),(10, .i c.kids.length),(11, .i x.1)],1,[(0,some (.box (Ax c)))]⟩) (fun x=>x.1 ≤ c.kids.length ∧ (1 ≤ x.2 ∧ x.2 ≤ max 1 (m + 1)) ∧ AF c.kids m 1 = AF (c.kids.drop x.1) m x.2) (fun x=>c.kids.length - x.1) (0,1) ⟨Nat.zero_le _,by dsimp only;omega,rfl⟩
  (A5 h0 rfl ⟨rfl,rfl,rfl,rfl,rfl,trivial⟩ ⟨rfl,trivial⟩ rfl rfl rfl) (fun x hI=>?_)
 obtain ⟨k,n⟩:=x
 obtain ⟨hk,hn,hI⟩:=hI
 dsimp only at hk hn hI ⊢
 repeat' ((first | (refine B0 (ih _ (List.mem_of_getElem? (by assumption)) _ (by omega) (by omega)) ?_) | (refine G2 ?_ ?_;(have:=Ib el (m - n);omega)) |refine A1 ?_|refine S1 ?_|refine Z1 ?_|refine Z2 ?_|(refine And.intro ?_ ?_<;>intro h<;>try first|(exfalso;omega)|exact absurd rfl h)|refine Z3 ?_|refine Z4 ?_|intro el hel hbB|intro el hel|intro ex|refine Z5 ?_|(refine A8 ?_ ?_;exact ⟨by kernel_rfl,by decide⟩)|refine A7 ?_ ?_|exact A6|refine A3 ?_ ?_|exact A2|(refine A0 ?_ ?_ ?_;kernel_rfl;kernel_rfl)) <;> (try (conv=>whnf)))
 all_goals first
  | exact A9 rfl (congrArg AV.i (by rw [hI,M9 hel,AF,if_pos (by assumption)]))
  | exact A9 rfl (congrArg AV.i (by rw [hI,AW (by assumption)];rfl))
  | exact ⟨(k + 1,n + AE el (m - n)),⟨by dsimp only;omega,(by have:=Ib el (m - n);dsimp only;omega),by rw [hI,M9 hel,AF,if_neg (by assumption)]⟩,by dsimp only;omega,A5 h0 rfl ⟨rfl,rfl,rfl,rfl,rfl,trivial⟩ ⟨rfl,trivial⟩ rfl rfl rfl⟩
set_option maxHeartbeats 4000000 in
theorem TX (c:A4):O8 c ≤ 100000 → B3 Tryz.prog 69 [L8 c] (.i (O8 c)):=by
 refine Q3 (p:=fun c=>O8 c ≤ 100000 → B3 Tryz.prog 69 [L8 c] (.i (O8 c))) (fun c ih hd=>?_) c
 rw [T6,Dv] at *
 have hge:=Ls c.kids 0
 refine F7 Tryz.func69 20 fun hrd E h0=>?_
 have hlen:c.kids.length ≤ 9223372036854775807:=by
  have:=((hrd _ (List.mem_cons_self ..)).agg (.sl 6 (c.kids.map P4)) (by simp)).sl
  simpa using this
 clear hrd
 repeat' ((first|refine A1 ?_|refine S1 ?_|refine Z1 ?_|refine Z2 ?_|(refine And.intro ?_ ?_<;>intro h<;>try first|(exfalso;omega)|exact absurd rfl h)|refine Z3 ?_|refine Z4 ?_|intro el hel hbB|intro el hel|intro ex|refine Z5 ?_|(refine A8 ?_ ?_;exact ⟨by kernel_rfl,by decide⟩)|refine A7 ?_ ?_|exact A6|refine A3 ?_ ?_|exact A2|(refine A0 ?_ ?_ ?_;kernel_rfl;kernel_rfl)) <;> (try (conv=>whnf)))
 refine D8 (ι:=Nat × Nat) (fun x=>⟨[(3, .i x.2),(7, .sl 6 (c.kids.map P4)),(8, .i c.kids.length),(9, .i x.1)],1,[(0,some (.box (Ax c)))]⟩) (fun x=>x.1 ≤ c.kids.length ∧ x.2 ≤ S7 c.kids 0 ∧ S7 c.kids 0 = S7 (c.kids.drop x.1) x.2) (fun x=>c.kids.length - x.1) (0,0) ⟨Nat.zero_le _,Nat.zero_le _,rfl⟩
  (A5 h0 rfl ⟨rfl,rfl,rfl,rfl,trivial⟩ ⟨rfl,trivial⟩ rfl rfl rfl) (fun x hI=>?_)
 obtain ⟨k,n⟩:=x
 obtain ⟨hk,hn,hI⟩:=hI
 dsimp only at hk hn hI ⊢
 have hkd:∀ el,c.kids[k]? = some el → O8 el ≤ S7 c.kids 0:=fun el hel=>hge.2 el (List.mem_of_getElem? hel)
 repeat' ((first | (refine B0 (ih _ (List.mem_of_getElem? (by assumption)) (by have:=hkd el hel;omega)) ?_) |refine A1 ?_|refine S1 ?_|refine Z1 ?_|refine Z2 ?_|(refine And.intro ?_ ?_<;>intro h<;>try first|(exfalso;omega)|exact absurd rfl h)|refine Z3 ?_|refine Z4 ?_|intro el hel hbB|intro el hel|intro ex|refine Z5 ?_|(refine A8 ?_ ?_;exact ⟨by kernel_rfl,by decide⟩)|refine A7 ?_ ?_|exact A6|refine A3 ?_ ?_|exact A2|(refine A0 ?_ ?_ ?_;kernel_rfl;kernel_rfl)) <;> (try (conv=>whnf)))
 all_goals first
  | exact A9 rfl (congrArg AV.i (by rw [hI,AW (by assumption)];unfold S7;omega))
  | exact ⟨(k + 1,max n (O8 el)),⟨by dsimp only;omega,(by have:=hkd el hel;dsimp only;omega),by rw [hI,M9 hel,S7]⟩,by dsimp only;omega,A5 h0 rfl ⟨congrArg (fun z:Int=>some (AV.i z)) (by dsimp only;omega),rfl,rfl,rfl,trivial⟩ ⟨rfl,trivial⟩ rfl rfl rfl⟩
def U6 (op:Int):Int:=if op = 5 ∨ op = 6 then 2 else if op = 7 then 1 else 0
set_option maxHeartbeats 4000000 in
theorem TY (op:Int):B3 Tryz.prog 159 [.i op] (.i (U6 op)):=by
 refine F7 Tryz.func159 9 fun hrd E h0=>?_
 clear hrd
 repeat' ((first|refine A1 ?_|refine S1 ?_|refine Z1 ?_|refine Z2 ?_|(refine And.intro ?_ ?_<;>intro h<;>try first|(exfalso;omega)|exact absurd rfl h)|refine Z3 ?_|refine Z4 ?_|intro el hel hbB|intro el hel|intro ex|refine Z5 ?_|(refine A8 ?_ ?_;exact ⟨by kernel_rfl,by decide⟩)|refine A7 ?_ ?_|exact A6|refine A3 ?_ ?_|exact A2|(refine A0 ?_ ?_ ?_;kernel_rfl;kernel_rfl)) <;> (try (conv=>whnf)))
 all_goals first
  | exact A9 rfl (congrArg AV.i (by unfold U6;rw [if_pos (by omega)]))
  | exact A9 rfl (congrArg AV.i (by unfold U6;rw [if_neg (by omega),if_pos (by omega)]))
  | exact A9 rfl (congrArg AV.i (by unfold U6;rw [if_neg (by omega),if_neg (by omega)]))
abbrev TZ (c:A4):Bool:=decide (¬ (c.op ≠ 2 ∧ c.op ≠ 3 ∧ c.op ≠ 4 ∧ c.col ≠ 0) ∧ ¬ (c.op ≠ 2 ∧ c.code ≠ 0) ∧ (c.op = 3 ∨ c.lo = 0 ∧ c.hi = 0))
set_option maxHeartbeats 4000000 in
theorem PL (c:A4):B3 Tryz.prog 160 [L8 c] (.b (TZ c)):=by
 rw [T6]
 refine F7 Tryz.func160 46 fun hrd E h0=>?_
 clear hrd
 repeat' ((first|refine A1 ?_|refine S1 ?_|refine Z1 ?_|refine Z2 ?_|(refine And.intro ?_ ?_<;>intro h<;>try first|(exfalso;omega)|exact absurd rfl h)|refine Z3 ?_|refine Z4 ?_|intro el hel hbB|intro el hel|intro ex|refine Z5 ?_|(refine A8 ?_ ?_;exact ⟨by kernel_rfl,by decide⟩)|refine A7 ?_ ?_|exact A6|refine A3 ?_ ?_|exact A2|(refine A0 ?_ ?_ ?_;kernel_rfl;kernel_rfl)) <;> (try (conv=>whnf)))
 all_goals first
  | exact A9 rfl (congrArg AV.b (by unfold TZ;rw [decide_eq_true (by omega)]))
  | exact A9 rfl (congrArg AV.b (by unfold TZ;rw [decide_eq_false (by omega)]))
  | exact A9 rfl (congrArg AV.b (by unfold TZ;rw [decide_eq_decide];omega))
end Go.Proofs.YthkklceofokkmaaGreatDoor
