/- The library's Itoa and Atoi as contracts of the walk. -/
import Derived.Test.YthkklceofokkmaaGreatDoorBAvTy
import Derived.Test.YthkklceofokkmaaGreatDoorBSh
import Derived.Lib.AppendIntMem
import Derived.Lib.AtoiErrMem
import Derived.Test.YthkklceofokkmaaGreatDoorBCm1
import Derived.Lib.ItoaNum
import Derived.Lib.AtoiAll
set_option linter.unusedVariables false
set_option linter.unnecessarySimpa false
set_option linter.unusedSimpArgs false
namespace Go.Proofs.YthkklceofokkmaaGreatDoor
open Go Go.Av Go.RowKit Go.Lib
set_option maxRecDepth 100000
instance:DG Tryz.prog 89:=.of (by kernel_rfl)
theorem i7 (n:Int) (h0:-9223372036854775808 ≤ n) (h1:n ≤ 9223372036854775807):B3 Tryz.prog 28 [.v (.int .i64 n)] (.str (Lib.itoa n)):=by
 refine ⟨⟨Tryz.f28,Tryz.func28,by kernel_rfl,by kernel_rfl⟩,fun X w vs hX htb hl hv=>?_⟩
 match vs,hl with
 | [v],_ =>
   have hv0:=hv 0 _ v rfl rfl
   cases hv0
   refine Calls.mono (Tryz.strconv_Itoa n h0 h1 w ?_) ?_
   ·obtain ⟨_,t,fr,h⟩:=htb.tab 1 .u64 Lib.pow10Tab (by kernel_rfl)
    unfold Lib.TabIs World.var?
    rw [show (Tryz.prog).globalNamed "internal/strconv.uint64pow10" = some 1 by kernel_rfl]
    simp only [Option.bind_some,h]
   ·rintro e w' ⟨rfl,k,os,rfl⟩
    exact ⟨_,rfl, .str _,below_grow _ w (Nat.le_refl _) k os⟩
theorem Rx (z:List UInt8) (hz:z.length ≤ 281474976710656) {v:Int} (h:Lib.atoiAll z = .ok v):B3 Tryz.prog 167 [.str z] (.tup [.v (.int .i64 v), .v .nilIface]):=by
 refine ⟨⟨Tryz.f167,Tryz.func167,by kernel_rfl,by kernel_rfl⟩,fun X w vs hX htb hl hv=>?_⟩
 match vs,hl with
 | [y],_ =>
   have hv0:=hv 0 _ y rfl rfl
   cases hv0
   have hs:(ByteArray.mk z.toArray).size = z.length:=rfl
   refine Calls.mono (Tryz.strconv_Atoi_ok ⟨z.toArray⟩ (by rw [hs];omega) v (by simpa using h) w) ?_
   rintro e w' ⟨rfl,hw⟩
   refine ⟨_,rfl, .tup _ [.int .i64 v, .nilIface] rfl fun j x c hx hc=>?_,?_⟩
   ·match j,hx,hc with
    | 0,hx,hc=>cases hx;cases hc;exact .v _
    | 1,hx,hc=>cases hx;cases hc;exact .v _
   ·rcases hw with rfl | ⟨t,rfl⟩
    ·exact Below.refl _ _
    ·exact Lib.bytesWorld_below _ _ _
theorem PO (z:List UInt8) (hz:z.length ≤ 281474976710656) (h:Lib.atoiAll z = Lib.NumEnd.syntax):B3 Tryz.prog 167 [.str z] (.tup [.v (.int .i64 0), .err]):=by
 refine ⟨⟨Tryz.f167,Tryz.func167,by kernel_rfl,by kernel_rfl⟩,fun X w vs hX htb hl hv=>?_⟩
 match vs,hl with
 | [y],_ =>
   have hv0:=hv 0 _ y rfl rfl
   cases hv0
   have hs:(ByteArray.mk z.toArray).size = z.length:=rfl
   obtain ⟨_,te,pe,t,fr,he⟩:=htb.err 6 (by decide)
   refine Calls.mono (Tryz.strconv_Atoi_syntax ⟨z.toArray⟩ (by rw [hs];omega) (by simpa using h) (.iface te pe) w (by unfold World.cell?;simp [he]) (.inr ⟨te,pe,rfl⟩)) ?_
   rintro e w' ⟨N,rfl,_,_,hb⟩
   refine ⟨_,rfl, .tup _ [.int .i64 0,_] rfl fun j x c hx hc=>?_,hb⟩
   match j,hx,hc with
   | 0,hx,hc=>cases hx;cases hc;exact .v _
   | 1,hx,hc=>cases hx;cases hc;exact .err _ _
theorem PP (z:List UInt8) (hz:z.length ≤ 281474976710656) (h:Lib.atoiAll z = .range):B3 Tryz.prog 167 [.str z] (.tup [.v (.int .i64 (Lib.atoiSat z)), .err]):=by
 refine ⟨⟨Tryz.f167,Tryz.func167,by kernel_rfl,by kernel_rfl⟩,fun X w vs hX htb hl hv=>?_⟩
 match vs,hl with
 | [y],_ =>
   have hv0:=hv 0 _ y rfl rfl
   cases hv0
   have hs:(ByteArray.mk z.toArray).size = z.length:=rfl
   obtain ⟨_,te,pe,t,fr,he⟩:=htb.err 7 (by decide)
   refine Calls.mono (Tryz.strconv_Atoi_range ⟨z.toArray⟩ (by rw [hs];omega) (by simpa using h) (.iface te pe) w (by unfold World.cell?;simp [he]) (.inr ⟨te,pe,rfl⟩)) ?_
   rintro e w' ⟨N,rfl,_,_,hb⟩
   refine ⟨_,rfl, .tup _ [.int .i64 (Lib.atoiSat z),_] rfl fun j x c hx hc=>?_,hb⟩
   match j,hx,hc with
   | 0,hx,hc=>cases hx;cases hc;exact .v _
   | 1,hx,hc=>cases hx;cases hc;exact .err _ _
end Go.Proofs.YthkklceofokkmaaGreatDoor
namespace Go.Proofs.YthkklceofokkmaaGreatDoor
open Go Go.Av
attribute [local irreducible] E5 B7 E6 E7 DQ E8 F0 St.le B3 B5
set_option maxRecDepth 100000
def J5 (b:UInt8):Bool:=decide (97 ≤ b.toNat ∧ b.toNat ≤ 122 ∨ 48 ≤ b.toNat ∧ b.toNat ≤ 57 ∨ b.toNat = 95)
def C7 (w t:List UInt8):List UInt8 × Bool:=if w.isPrefixOf t = true then (t.drop w.length,true) else (t,false)
theorem U9 (w t:List UInt8):(C7 w t).1.length ≤ t.length:=by
 unfold C7
 split
 ·simp
 ·exact Nat.le_refl _
theorem T8 (p:UInt8 → Bool) (t:List UInt8):(t.dropWhile p).length ≤ t.length:=by
 induction t with
 | nil=>exact Nat.le_refl _
 | cons a r ih =>
   rw [List.dropWhile_cons]
   split
   ·rw [List.length_cons];omega
   ·exact Nat.le_refl _
theorem w8 (p:UInt8 → Bool) (t:List UInt8):(t.takeWhile p).length ≤ t.length:=by
 induction t with
 | nil=>exact Nat.le_refl _
 | cons a r ih =>
   rw [List.takeWhile_cons]
   split
   ·rw [List.length_cons,List.length_cons];omega
   ·simp
theorem Jj {p:UInt8 → Bool}:∀ {t:List UInt8} {n:Nat},(∀ i b,i < n → t[i]? = some b → p b = true) → n ≤ t.length → (∀ b,t[n]? = some b → p b = false) → t.takeWhile p = t.take n ∧ t.dropWhile p = t.drop n
 | [],n,_,hn,_=>by
   have:n = 0:=by simpa using hn
   subst this;exact ⟨rfl,rfl⟩
 | a :: r,0,_,_,h2=>by
   have:=h2 a rfl
   rw [List.takeWhile_cons,List.dropWhile_cons,this]
   exact ⟨rfl,rfl⟩
 | a :: r,n + 1,h1,hn,h2=>by
   have ha:=h1 0 a (by omega) rfl
   obtain ⟨i1,i2⟩:=Jj (p:=p) (t:=r) (n:=n) (fun i b hi hb=>h1 (i + 1) b (by omega) (by simpa using hb)) (by simpa using hn) (fun b hb=>h2 b (by simpa using hb))
   rw [List.takeWhile_cons,List.dropWhile_cons,ha,i1,i2]
   exact ⟨rfl,rfl⟩
def BQ (t:List UInt8):List UInt8:=(if (C7 [45] t).2 = true then [45] else []) ++ (C7 [45] t).1.takeWhile J5
def GZ (z:List UInt8):Int × Bool:=match Lib.atoiAll z with
 | .ok n=>(n,decide (Lib.itoa n = z))
 | Lib.NumEnd.syntax=>(0,false)
 | .range=>(Lib.atoiSat z,false)
def Q5 (t:List UInt8):Int × Bool × List UInt8:=((GZ (BQ t)).1,(GZ (BQ t)).2,(C7 [45] t).1.dropWhile J5)
theorem Jk (t:List UInt8):(Q5 t).2.2.length ≤ t.length:=Nat.le_trans (T8 _ _) (U9 _ _)
abbrev U4:List UInt8:=[32,117,110,100,101,114,32]
abbrev P5:List UInt8:=[32,102,114,111,109,32]
abbrev CW:List UInt8:=[32,116,111,32]
abbrev m5:List UInt8:=[32,109,105,115,115,105,110,103]
abbrev S9:List UInt8:=[32,97,110,100,32]
abbrev d6:List UInt8:=[32,111,114,32]
abbrev d9:List UInt8:=[110,111,116,32]
abbrev CG:List UInt8:=[97,108,108]
def k7 (s:B2) (col:Int) (t:List UInt8):A4 × Bool × List UInt8 :=
 if (C7 U4 t).2 = true then
  if (C6 s col).kind = 2 then (.mk 2 col (CE (D7 s (C6 s col)).1 (D7 s (C6 s col)).2 ((C7 U4 t).1.takeWhile J5)) 0 0 [],decide (0 ≤ CE (D7 s (C6 s col)).1 (D7 s (C6 s col)).2 ((C7 U4 t).1.takeWhile J5)),(C7 U4 t).1.dropWhile J5)
  else (.mk 2 col 0 0 0 [],false,(C7 U4 t).1)
 else if (C7 P5 t).2 = true then
  if (Q5 (C7 P5 t).1).2.1 = true then
   if (C7 CW (Q5 (C7 P5 t).1).2.2).2 = true then
    (.mk 3 col 0 (Q5 (C7 P5 t).1).1 (Q5 (C7 CW (Q5 (C7 P5 t).1).2.2).1).1 [],(Q5 (C7 CW (Q5 (C7 P5 t).1).2.2).1).2.1,(Q5 (C7 CW (Q5 (C7 P5 t).1).2.2).1).2.2)
   else (.mk 3 col 0 0 0 [],false,(Q5 (C7 P5 t).1).2.2)
  else (.mk 3 col 0 0 0 [],false,(Q5 (C7 P5 t).1).2.2)
 else if (C7 m5 t).2 = true then (.mk 4 col 0 0 0 [],true,(C7 m5 t).1)
 else (.mk 0 col 0 0 0 [],false,t)
structure Gz where
 c:A4
 ok:Bool
 t:List UInt8
 left:Int
def u4 (f:Int → List UInt8 → Gz) (left:Int) (t:List UInt8):Gz :=
 if (f left t).ok = true then
  if (C7 S9 (f left t).t).2 = true then
   if (f (f left t).left (C7 S9 (f left t).t).1).ok = true then ⟨.mk 5 0 0 0 0 [(f left t).c,(f (f left t).left (C7 S9 (f left t).t).1).c],(C7 [41] (f (f left t).left (C7 S9 (f left t).t).1).t).2,(C7 [41] (f (f left t).left (C7 S9 (f left t).t).1).t).1,(f (f left t).left (C7 S9 (f left t).t).1).left⟩
   else ⟨.mk 5 0 0 0 0 [(f left t).c,(f (f left t).left (C7 S9 (f left t).t).1).c],false,(f (f left t).left (C7 S9 (f left t).t).1).t,(f (f left t).left (C7 S9 (f left t).t).1).left⟩
  else if (C7 d6 (f left t).t).2 = true then
   if (f (f left t).left (C7 d6 (f left t).t).1).ok = true then ⟨.mk 6 0 0 0 0 [(f left t).c,(f (f left t).left (C7 d6 (f left t).t).1).c],(C7 [41] (f (f left t).left (C7 d6 (f left t).t).1).t).2,(C7 [41] (f (f left t).left (C7 d6 (f left t).t).1).t).1,(f (f left t).left (C7 d6 (f left t).t).1).left⟩
   else ⟨.mk 6 0 0 0 0 [(f left t).c,(f (f left t).left (C7 d6 (f left t).t).1).c],false,(f (f left t).left (C7 d6 (f left t).t).1).t,(f (f left t).left (C7 d6 (f left t).t).1).left⟩
  else ⟨.mk 6 0 0 0 0 [],false,(f left t).t,(f left t).left⟩
 else ⟨(f left t).c,false,(f left t).t,(f left t).left⟩
def M3 (s:B2):Nat → Int → List UInt8 → Gz
 | 0,left,t=>⟨.mk 0 0 0 0 0 [],false,t,left - 1⟩
 | d + 1,left,t =>
   if left - 1 < 0 then ⟨.mk 0 0 0 0 0 [],false,t,left - 1⟩
   else if (C7 [40] t).2 = true then u4 (fun l u=>M3 s d l u) (left - 1) (C7 [40] t).1
   else if (C7 d9 t).2 = true then
    ⟨.mk 7 0 0 0 0 [(M3 s d (left - 1) (C7 d9 t).1).c],(M3 s d (left - 1) (C7 d9 t).1).ok,(M3 s d (left - 1) (C7 d9 t).1).t,(M3 s d (left - 1) (C7 d9 t).1).left⟩
   else if t.takeWhile J5 = CG then ⟨.mk 1 0 0 0 0 [],true,t.dropWhile J5,left - 1⟩
   else if J3 s (t.takeWhile J5) < 0 then ⟨.mk 0 0 0 0 0 [],false,t.dropWhile J5,left - 1⟩
   else ⟨(k7 s (J3 s (t.takeWhile J5)) (t.dropWhile J5)).1,(k7 s (J3 s (t.takeWhile J5)) (t.dropWhile J5)).2.1,(k7 s (J3 s (t.takeWhile J5)) (t.dropWhile J5)).2.2,left - 1⟩
def wd:Nat → Int
 | 0=>1
 | d + 1=>2 * wd d + 1
theorem Xf (s:B2) (col:Int) (t:List UInt8):(k7 s col t).2.2.length ≤ t.length:=by
 have h1:=U9 U4 t
 have h2:=T8 J5 (C7 U4 t).1
 have h3:=U9 P5 t
 have h4:=Jk (C7 P5 t).1
 have h5:=U9 CW (Q5 (C7 P5 t).1).2.2
 have h6:=Jk (C7 CW (Q5 (C7 P5 t).1).2.2).1
 have h7:=U9 m5 t
 unfold k7
 (repeat' split) <;> (try dsimp only) <;> omega
theorem af {f:Int → List UInt8 → Gz} {w:Int} (hf:∀ l u,(f l u).t.length ≤ u.length ∧ l - w ≤ (f l u).left ∧ (f l u).left ≤ l) (left:Int) (t:List UInt8):(u4 f left t).t.length ≤ t.length ∧ left - 2 * w ≤ (u4 f left t).left ∧ (u4 f left t).left ≤ left ∧ 0 ≤ w ∨ w < 0:=by
 by_cases hw:w < 0
 ·exact .inr hw
 refine .inl ?_
 obtain ⟨a1,a2,a3⟩:=hf left t
 have c1:=U9 S9 (f left t).t
 have c2:=U9 d6 (f left t).t
 obtain ⟨b1,b2,b5⟩:=hf (f left t).left (C7 S9 (f left t).t).1
 obtain ⟨b3,b4,b6⟩:=hf (f left t).left (C7 d6 (f left t).t).1
 have c3:=U9 [41] (f (f left t).left (C7 S9 (f left t).t).1).t
 have c4:=U9 [41] (f (f left t).left (C7 d6 (f left t).t).1).t
 unfold u4
 (repeat' split) <;> (try dsimp only) <;> refine ⟨?_,?_,?_,?_⟩ <;> omega
theorem LB:∀ d,1 ≤ wd d
 | 0=>by decide
 | d + 1=>by have:=LB d;unfold wd;omega
theorem Ry (s:B2):∀ (d:Nat) (left:Int) (t:List UInt8),(M3 s d left t).t.length ≤ t.length ∧ left - wd d ≤ (M3 s d left t).left ∧ (M3 s d left t).left ≤ left
 | 0,left,t=>⟨Nat.le_refl _,Int.le_refl _,by unfold M3;dsimp only;omega⟩
 | d + 1,left,t=>by
   have ih:=Ry s d
   have hw:=LB d
   have c1:=U9 [40] t
   have c2:=U9 d9 t
   have c3:=T8 J5 t
   have c4:=Xf s (J3 s (t.takeWhile J5)) (t.dropWhile J5)
   have hp:=af (w:=wd d) (f:=fun l u=>M3 s d l u) ih (left - 1) (C7 [40] t).1
   obtain ⟨i1,i2,i3⟩:=ih (left - 1) (C7 d9 t).1
   unfold M3 wd
   (repeat' split) <;> (try dsimp only) <;> refine ⟨?_,?_,?_⟩ <;> omega
def V0 (s:B2) (t:List UInt8):A4 × Int :=
 if C8 s = 0 then
  (if (M3 s 10 40 t).ok = true ∧ (M3 s 10 40 t).t = [] ∧ H0 s (M3 s 10 40 t).c = 0 then ((M3 s 10 40 t).c,0) else (.mk 0 0 0 0 0 [],11))
 else (.mk 0 0 0 0 0 [],C8 s)
def R4 (s:B2) (col:Int):List UInt8:=(C6 s col).name
def An (s:B2) (col code:Int):List UInt8:=((D7 s (C6 s col)).2.getD code.toNat ⟨[],0⟩).name
mutual
def D6 (s:B2):A4 → List UInt8
 | .mk o c k l h ks =>
   if o = 2 then R4 s c ++ U4 ++ An s c k
   else if o = 3 then R4 s c ++ P5 ++ Lib.itoa l ++ CW ++ Lib.itoa h
   else if o = 4 then R4 s c ++ m5
   else if o = 5 then [40] ++ (Hc s ks).getD 0 [] ++ S9 ++ (Hc s ks).getD 1 [] ++ [41]
   else if o = 6 then [40] ++ (Hc s ks).getD 0 [] ++ d6 ++ (Hc s ks).getD 1 [] ++ [41]
   else if o = 7 then d9 ++ (Hc s ks).getD 0 []
   else CG
def Hc (s:B2):List A4 → List (List UInt8)
 | []=>[]
 | x :: r=>D6 s x :: Hc s r
end
theorem EP (s:B2):∀ l,Hc s l = l.map (D6 s)
 | []=>rfl
 | x :: r=>by rw [Hc,EP s r];rfl
theorem PQ {w t:List UInt8}:w.isPrefixOf t = true ↔ (w.length ≤ t.length ∧ t.take w.length = w):=by
 rw [List.isPrefixOf_iff_prefix]
 constructor
 ·rintro ⟨r,rfl⟩;simp
 ·rintro ⟨h1,h2⟩
  exact ⟨t.drop w.length,by conv=>lhs;arg 1;rw [← h2]
                            exact List.take_append_drop _ _⟩
set_option maxHeartbeats 2000000 in
theorem LC (t w:List UInt8) (ht:t.length ≤ 9223372036854775807) (hw:w.length ≤ 9223372036854775807):B3 Tryz.prog 147 [.str t, .str w] (.b (w.isPrefixOf t)):=by
 have hp:=PQ (w:=w) (t:=t)
 refine F7 Tryz.func147 18 fun hrd E h0=>?_
 clear hrd
 repeat' ((first|refine A1 ?_|refine S1 ?_|refine Z1 ?_|refine Z2 ?_|(refine And.intro ?_ ?_<;>intro h<;>try first|(exfalso;omega)|exact absurd rfl h)|refine Z3 ?_|refine Z4 ?_|intro el hel hbB|intro el hel|intro ex|refine Z5 ?_|(refine A8 ?_ ?_;exact ⟨by kernel_rfl,by decide⟩)|refine A7 ?_ ?_|exact A6|refine A3 ?_ ?_|exact A2|(refine A0 ?_ ?_ ?_;kernel_rfl;kernel_rfl)) <;> (try (conv=>whnf)))
 all_goals first
  | (refine A9 rfl (congrArg AV.b (Bool.eq_iff_iff.2 ?_));rw [hp];simp only [decide_eq_true_iff,Bool.false_eq_true,false_iff];omega)
  | (refine A9 rfl (congrArg AV.b (Bool.eq_iff_iff.2 ?_));rw [hp];simp only [decide_eq_true_iff,Bool.false_eq_true,false_iff];simp;omega)
  | (refine A9 rfl (congrArg AV.b (Bool.eq_iff_iff.2 ?_));rw [hp];clear h0;trace_state)
set_option maxHeartbeats 2000000 in
theorem LD (t w:List UInt8) (ht:t.length ≤ 9223372036854775807) (hw:w.length ≤ 9223372036854775807):B3 Tryz.prog 139 [.str t, .str w] (.tup [.str (C7 w t).1, .b (C7 w t).2]):=by
 have hp:=LC t w ht hw
 have hq:=PQ (w:=w) (t:=t)
 unfold C7
 refine F7 Tryz.func139 15 fun hrd E h0=>?_
 clear hrd
 by_cases h:w.isPrefixOf t = true
 ·rw [if_pos h]
  rw [h] at hp
  have hq:=hq.1 h
  repeat' ((first | refine B0 hp ?_ |refine A1 ?_|refine S1 ?_|refine Z1 ?_|refine Z2 ?_|(refine And.intro ?_ ?_<;>intro h<;>try first|(exfalso;omega)|exact absurd rfl h)|refine Z3 ?_|refine Z4 ?_|intro el hel hbB|intro el hel|intro ex|refine Z5 ?_|(refine A8 ?_ ?_;exact ⟨by kernel_rfl,by decide⟩)|refine A7 ?_ ?_|exact A6|refine A3 ?_ ?_|exact A2|(refine A0 ?_ ?_ ?_;kernel_rfl;kernel_rfl)) <;> (try (conv=>whnf)))
  all_goals first
   | exact a7 rfl rfl (congrArg (fun z=>AV.tup [AV.str z, .b true]) (by simp))
 ·have h2:w.isPrefixOf t = false:=eq_false_of_ne_true h
  rw [if_neg h]
  rw [h2] at hp
  repeat' ((first | refine B0 hp ?_ |refine A1 ?_|refine S1 ?_|refine Z1 ?_|refine Z2 ?_|(refine And.intro ?_ ?_<;>intro h<;>try first|(exfalso;omega)|exact absurd rfl h)|refine Z3 ?_|refine Z4 ?_|intro el hel hbB|intro el hel|intro ex|refine Z5 ?_|(refine A8 ?_ ?_;exact ⟨by kernel_rfl,by decide⟩)|refine A7 ?_ ?_|exact A6|refine A3 ?_ ?_|exact A2|(refine A0 ?_ ?_ ?_;kernel_rfl;kernel_rfl)) <;> (try (conv=>whnf)))
  all_goals first
   | exact a7 rfl rfl rfl
set_option maxHeartbeats 2000000 in
theorem Fe (t w:List UInt8) (ht:t.length ≤ 9223372036854775807) (hw:w.length ≤ 9223372036854775807):B3 Tryz.prog 97 [.str t, .str w] (.tup [.str (C7 w t).1, .b (C7 w t).2]):=by
 have hp:=LD t w ht hw
 refine F7 Tryz.func97 11 fun hrd E h0=>?_
 clear hrd
 repeat' ((first | refine B0 hp ?_ |refine A1 ?_|refine S1 ?_|refine Z1 ?_|refine Z2 ?_|(refine And.intro ?_ ?_<;>intro h<;>try first|(exfalso;omega)|exact absurd rfl h)|refine Z3 ?_|refine Z4 ?_|intro el hel hbB|intro el hel|intro ex|refine Z5 ?_|(refine A8 ?_ ?_;exact ⟨by kernel_rfl,by decide⟩)|refine A7 ?_ ?_|exact A6|refine A3 ?_ ?_|exact A2|(refine A0 ?_ ?_ ?_;kernel_rfl;kernel_rfl)) <;> (try (conv=>whnf)))
 all_goals exact a7 rfl rfl rfl
abbrev DM (s:B2) (t:List UInt8) (left:Int):Hp:=[(0,some (.box [.sl 2 (s.lists.map O7), .sl 7 (s.cols.map L5), .str t, .i left]))]
set_option maxHeartbeats 2000000 in
theorem W0 (s:B2) (t w:List UInt8) (left:Int) (ht:t.length ≤ 9223372036854775807) (hw:w.length ≤ 9223372036854775807):B5 Tryz.prog 182 1 (DM s t left) [.ref 0 0, .str w] 1 (DM s (C7 w t).1 left) (.b (C7 w t).2):=by
 have hp:=Fe t w ht hw
 refine G3 Tryz.func182 21 fun E h0=>?_
 repeat' ((first | refine B0 hp ?_ |refine A1 ?_|refine S1 ?_|refine Z1 ?_|refine Z2 ?_|(refine And.intro ?_ ?_<;>intro h<;>try first|(exfalso;omega)|exact absurd rfl h)|refine Z3 ?_|refine Z4 ?_|intro el hel hbB|intro el hel|intro ex|refine Z5 ?_|(refine A8 ?_ ?_;exact ⟨by kernel_rfl,by decide⟩)|refine A7 ?_ ?_|exact A6|refine A3 ?_ ?_|exact A2|(refine A0 ?_ ?_ ?_;kernel_rfl;kernel_rfl)) <;> (try (conv=>whnf)))
 all_goals exact D4 (A5 h0 rfl ⟨rfl,trivial⟩ ⟨rfl,trivial⟩ rfl rfl rfl)
theorem Xg {b:UInt8} (h:97 ≤ b.toNat ∧ b.toNat ≤ 122 ∨ 48 ≤ b.toNat ∧ b.toNat ≤ 57 ∨ b.toNat = 95):J5 b = true:=decide_eq_true h
theorem VU {b:UInt8} (h:¬ (97 ≤ b.toNat ∧ b.toNat ≤ 122 ∨ 48 ≤ b.toNat ∧ b.toNat ≤ 57 ∨ b.toNat = 95)):J5 b = false:=decide_eq_false h
def Hd (t:List UInt8) (n:Nat):Prop:=n ≤ t.length ∧ ∀ i b,i < n → t[i]? = some b → J5 b = true
theorem Hd.step {t:List UInt8} {n:Nat} {b:UInt8} (h:Hd t n) (hb:t[n]? = some b) (hw:J5 b = true):Hd t (n + 1):=by
 refine ⟨by have:=(List.getElem?_eq_some_iff.1 hb).1;omega,fun i c hi hc=>?_⟩
 by_cases e:i = n
 ·subst e;rw [hb] at hc;cases hc;exact hw
 ·exact h.2 i c (by omega) hc
theorem Hd.ends {t:List UInt8} {n:Nat} {b:UInt8} (h:Hd t n) (hb:t[n]? = some b) (hw:J5 b = false):t.takeWhile J5 = t.take n ∧ t.dropWhile J5 = t.drop n :=
 Jj (fun i c hi hc=>h.2 i c hi hc) h.1 (fun c hc=>by rw [hb] at hc;cases hc;exact hw)
theorem Hd.all {t:List UInt8} {n:Nat} (h:Hd t n) (hn:¬ (n:Int) < t.length):t.takeWhile J5 = t.take n ∧ t.dropWhile J5 = t.drop n :=
 Jj (fun i c hi hc=>h.2 i c hi hc) h.1 (fun c hc=>by have:=(List.getElem?_eq_some_iff.1 hc).1;omega)
set_option maxHeartbeats 8000000 in
theorem He (s:B2) (t:List UInt8) (left:Int) (ht:t.length ≤ 9223372036854775806):B5 Tryz.prog 184 1 (DM s t left) [.ref 0 0] 1 (DM s (t.dropWhile J5) left) (.str (t.takeWhile J5)):=by
 refine G3 Tryz.func184 75 fun E h0=>?_
 repeat' ((first|refine A1 ?_|refine S1 ?_|refine Z1 ?_|refine Z2 ?_|(refine And.intro ?_ ?_<;>intro h<;>try first|(exfalso;omega)|exact absurd rfl h)|refine Z3 ?_|refine Z4 ?_|intro el hel hbB|intro el hel|intro ex|refine Z5 ?_|(refine A8 ?_ ?_;exact ⟨by kernel_rfl,by decide⟩)|refine A7 ?_ ?_|exact A6|refine A3 ?_ ?_|exact A2|(refine A0 ?_ ?_ ?_;kernel_rfl;kernel_rfl)) <;> (try (conv=>whnf)))
 refine D8 (ι:=Nat) (fun n=>⟨[(0, .ref 0 0),(3, .i n)],1,DM s t left⟩) (fun n=>Hd t n) (fun n=>t.length - n) 0 ⟨Nat.zero_le _,fun i b hi=>absurd hi (Nat.not_lt_zero _)⟩ (A5 h0 rfl ⟨rfl,rfl,trivial⟩ ⟨rfl,trivial⟩ rfl rfl rfl) (fun n hI=>?_)
 have hn:=hI.1
 by_cases hlt:n < t.length
 ·obtain ⟨b,hb⟩:∃ b,t[n]? = some b:=⟨_,List.getElem?_eq_getElem hlt⟩
  by_cases hw:97 ≤ b.toNat ∧ b.toNat ≤ 122 ∨ 48 ≤ b.toNat ∧ b.toNat ≤ 57 ∨ b.toNat = 95
  ·repeat' ((first | (refine Ak (x:=b) hb (by omega) ?_) |refine A1 ?_|refine S1 ?_|refine Z1 ?_|refine Z2 ?_|(refine And.intro ?_ ?_<;>intro h<;>try first|(exfalso;omega)|exact absurd rfl h)|refine Z3 ?_|refine Z4 ?_|intro el hel hbB|intro el hel|intro ex|refine Z5 ?_|(refine A8 ?_ ?_;exact ⟨by kernel_rfl,by decide⟩)|refine A7 ?_ ?_|exact A6|refine A3 ?_ ?_|exact A2|(refine A0 ?_ ?_ ?_;kernel_rfl;kernel_rfl)) <;> (try (conv=>whnf)))
   all_goals first
    | exact ⟨n + 1,hI.step hb (Xg hw),by omega,A5 h0 rfl ⟨rfl,rfl,trivial⟩ ⟨rfl,trivial⟩ rfl rfl rfl⟩
    | (exfalso;omega)
  ·obtain ⟨e1,e2⟩:=hI.ends hb (VU hw)
   rw [e1,e2]
   repeat' ((first | (refine Ak (x:=b) hb (by omega) ?_) |refine A1 ?_|refine S1 ?_|refine Z1 ?_|refine Z2 ?_|(refine And.intro ?_ ?_<;>intro h<;>try first|(exfalso;omega)|exact absurd rfl h)|refine Z3 ?_|refine Z4 ?_|intro el hel hbB|intro el hel|intro ex|refine Z5 ?_|(refine A8 ?_ ?_;exact ⟨by kernel_rfl,by decide⟩)|refine A7 ?_ ?_|exact A6|refine A3 ?_ ?_|exact A2|(refine A0 ?_ ?_ ?_;kernel_rfl;kernel_rfl)) <;> (try (conv=>whnf)))
   all_goals first
    | (exfalso;omega)
    | exact D4 (A5 h0 rfl ⟨congrArg (fun z=>some (AV.str z)) (by simp),trivial⟩ ⟨congrArg (fun z=>H4.box [.sl 2 (s.lists.map O7), .sl 7 (s.cols.map L5), .str z, .i left]) (by simp),trivial⟩ rfl rfl rfl)
 ·obtain ⟨e1,e2⟩:=hI.all (by omega)
  rw [e1,e2]
  repeat' ((first|refine A1 ?_|refine S1 ?_|refine Z1 ?_|refine Z2 ?_|(refine And.intro ?_ ?_<;>intro h<;>try first|(exfalso;omega)|exact absurd rfl h)|refine Z3 ?_|refine Z4 ?_|intro el hel hbB|intro el hel|intro ex|refine Z5 ?_|(refine A8 ?_ ?_;exact ⟨by kernel_rfl,by decide⟩)|refine A7 ?_ ?_|exact A6|refine A3 ?_ ?_|exact A2|(refine A0 ?_ ?_ ?_;kernel_rfl;kernel_rfl)) <;> (try (conv=>whnf)))
  all_goals first
   | (exfalso;omega)
   | exact D4 (A5 h0 rfl ⟨congrArg (fun z=>some (AV.str z)) (by simp),trivial⟩ ⟨congrArg (fun z=>H4.box [.sl 2 (s.lists.map O7), .sl 7 (s.cols.map L5), .str z, .i left]) (by simp),trivial⟩ rfl rfl rfl)
end Go.Proofs.YthkklceofokkmaaGreatDoor
