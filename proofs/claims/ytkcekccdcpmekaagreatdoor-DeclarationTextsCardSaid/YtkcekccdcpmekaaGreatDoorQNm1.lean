/- The library's Itoa and Atoi as contracts of the walk. -/
import Derived.Test.YtkcekccdcpmekaaGreatDoorQAvTy
import Derived.Test.YtkcekccdcpmekaaGreatDoorQSh
import Derived.Lib.AppendIntMem
import Derived.Lib.AtoiErrMem
import Derived.Test.YtkcekccdcpmekaaGreatDoorQCm1
import Derived.Lib.ItoaNum
import Derived.Lib.AtoiAll
set_option linter.unusedVariables false
set_option linter.unnecessarySimpa false
set_option linter.unusedSimpArgs false
set_option maxHeartbeats 64000000
namespace Go.Proofs.YtkcekccdcpmekaaGreatDoor
open Go Go.Av Go.RowKit Go.Lib
set_option maxRecDepth 100000
instance:EQ Tryz.prog 86:=.of (by kernel_rfl)
theorem P3(n:Int)(h0:-9223372036854775808≤n)(h1:n≤9223372036854775807):A4 Tryz.prog 22 [.v (.int .i64 n)] (.str (Lib.itoa n)):=by
 refine⟨⟨Tryz.f22,Tryz.func22,by kernel_rfl,by kernel_rfl⟩,fun X w vs hX mL hl hv=>?_⟩
 match vs,hl with
 |[v],_ =>
  have nn:=hv 0 _ v rfl rfl
  cases nn
  refine Calls.mono (Tryz.strconv_Itoa n h0 h1 w ?_) ?_
  ·obtain⟨_,t,fr,h⟩:=mL.tab 1 .u64 Lib.pow10Tab (by kernel_rfl)
   unfold Lib.TabIs World.var?
   rw [show (Tryz.prog).globalNamed "internal/strconv.uint64pow10" = some 1 by kernel_rfl]
   simp only[Option.bind_some,h]
  ·rintro e w' ⟨rfl,k,os,rfl⟩
   exact⟨_,rfl,.str _,below_grow _ w (Nat.le_refl _) k os⟩
theorem UK(z:List UInt8)(hz:z.length≤281474976710656){v:Int}(h:Lib.atoiAll z=.ok v):A4 Tryz.prog 162 [.str z] (.tup [.v (.int .i64 v),.v .nilIface]):=by
 refine⟨⟨Tryz.f162,Tryz.func162,by kernel_rfl,by kernel_rfl⟩,fun X w vs hX mL hl hv=>?_⟩
 match vs,hl with
 |[y],_ =>
  have nn:=hv 0 _ y rfl rfl
  cases nn
  have hs:(ByteArray.mk z.toArray).size=z.length:=rfl
  refine Calls.mono (Tryz.strconv_Atoi_ok ⟨z.toArray⟩ (by rw[hs];omega) v (by simpa using h) w) ?_
  rintro e w' ⟨rfl,hw⟩
  refine⟨_,rfl,.tup _ [.int .i64 v,.nilIface] rfl fun j x c hx hc=>?_,?_⟩
  ·match j,hx,hc with
   |0,hx,hc=>cases hx;cases hc;exact .v _
   |1,hx,hc=>cases hx;cases hc;exact .v _
  ·rcases hw with rfl|⟨t,rfl⟩
   ·exact Below.refl _ _
   ·exact Lib.bytesWorld_below _ _ _
theorem RH(z:List UInt8)(hz:z.length≤281474976710656)(h:Lib.atoiAll z=Lib.NumEnd.syntax):A4 Tryz.prog 162 [.str z] (.tup [.v (.int .i64 0),.err]):=by
 refine⟨⟨Tryz.f162,Tryz.func162,by kernel_rfl,by kernel_rfl⟩,fun X w vs hX mL hl hv=>?_⟩
 match vs,hl with
 |[y],_ =>
  have nn:=hv 0 _ y rfl rfl
  cases nn
  have hs:(ByteArray.mk z.toArray).size=z.length:=rfl
  obtain⟨_,te,pe,t,fr,he⟩:=mL.err 6 (by decide)
  refine Calls.mono (Tryz.strconv_Atoi_syntax ⟨z.toArray⟩ (by rw[hs];omega) (by simpa using h) (.iface te pe) w (by unfold World.cell?;simp[he]) (.inr ⟨te,pe,rfl⟩)) ?_
  rintro e w' ⟨N,rfl,_,_,hb⟩
  refine⟨_,rfl,.tup _ [.int .i64 0,_] rfl fun j x c hx hc=>?_,hb⟩
  match j,hx,hc with
  |0,hx,hc=>cases hx;cases hc;exact .v _
  |1,hx,hc=>cases hx;cases hc;exact .err _ _
theorem RI(z:List UInt8)(hz:z.length≤281474976710656)(h:Lib.atoiAll z=.range):A4 Tryz.prog 162 [.str z] (.tup [.v (.int .i64 (Lib.atoiSat z)),.err]):=by
 refine⟨⟨Tryz.f162,Tryz.func162,by kernel_rfl,by kernel_rfl⟩,fun X w vs hX mL hl hv=>?_⟩
 match vs,hl with
 |[y],_ =>
  have nn:=hv 0 _ y rfl rfl
  cases nn
  have hs:(ByteArray.mk z.toArray).size=z.length:=rfl
  obtain⟨_,te,pe,t,fr,he⟩:=mL.err 7 (by decide)
  refine Calls.mono (Tryz.strconv_Atoi_range ⟨z.toArray⟩ (by rw[hs];omega) (by simpa using h) (.iface te pe) w (by unfold World.cell?;simp[he]) (.inr ⟨te,pe,rfl⟩)) ?_
  rintro e w' ⟨N,rfl,_,_,hb⟩
  refine⟨_,rfl,.tup _ [.int .i64 (Lib.atoiSat z),_] rfl fun j x c hx hc=>?_,hb⟩
  match j,hx,hc with
  |0,hx,hc=>cases hx;cases hc;exact .v _
  |1,hx,hc=>cases hx;cases hc;exact .err _ _
end Go.Proofs.YtkcekccdcpmekaaGreatDoor
namespace Go.Proofs.YtkcekccdcpmekaaGreatDoor
open Go Go.Av
attribute [local irreducible] E8 B5 E5 E1 DQ E7 E9 St.le A4 A9
set_option maxRecDepth 100000
def L1(b:UInt8):Bool:=decide (97≤b.toNat∧b.toNat≤122∨48≤b.toNat∧b.toNat≤57∨b.toNat=95)
def A8(w t:List UInt8):List UInt8×Bool:=if w.isPrefixOf t=true then (t.drop w.length,true)else (t,false)
theorem K2(w t:List UInt8):(A8 w t).1.length≤t.length:=by
 unfold A8
 split
 ·simp
 ·exact Nat.le_refl _
theorem J7(p:UInt8→Bool)(t:List UInt8):(t.dropWhile p).length≤t.length:=by
 induction t with
 |nil=>exact Nat.le_refl _
 |cons a r ih =>
  rw[List.dropWhile_cons]
  split
  ·rw[List.length_cons];omega
  ·exact Nat.le_refl _
theorem P7(p:UInt8→Bool)(t:List UInt8):(t.takeWhile p).length≤t.length:=by
 induction t with
 |nil=>exact Nat.le_refl _
 |cons a r ih =>
  rw[List.takeWhile_cons]
  split
  ·rw[List.length_cons,List.length_cons];omega
  ·simp
theorem Fa{p:UInt8→Bool}:∀{t:List UInt8} {n:Nat},(∀i b,i<n→t[i]?=some b→p b=true)→n≤t.length→(∀b,t[n]?=some b→p b=false)→t.takeWhile p=t.take n∧t.dropWhile p=t.drop n
 |[],n,_,hn,_=>by
  have:n=0:=by simpa using hn
  subst this;exact⟨rfl,rfl⟩
 |a::r,0,_,_,h2=>by
  have:=h2 a rfl
  rw[List.takeWhile_cons,List.dropWhile_cons,this]
  exact⟨rfl,rfl⟩
 |a::r,n+1,h1,hn,h2=>by
  have ha:=h1 0 a (by omega) rfl
  obtain⟨i1,i2⟩:=Fa (p:=p) (t:=r) (n:=n) (fun i b hi hb=>h1 (i+1) b (by omega) (by simpa using hb)) (by simpa using hn) (fun b hb=>h2 b (by simpa using hb))
  rw[List.takeWhile_cons,List.dropWhile_cons,ha,i1,i2]
  exact⟨rfl,rfl⟩
def Cj(t:List UInt8):List UInt8:=(if (A8 [45] t).2=true then [45]else [])++(A8 [45] t).1.takeWhile L1
def Hq(z:List UInt8):Int×Bool:=match Lib.atoiAll z with
 |.ok n=>(n,decide (Lib.itoa n=z))
 |Lib.NumEnd.syntax=>(0,false)
 |.range=>(Lib.atoiSat z,false)
def U0(t:List UInt8):Int×Bool×List UInt8:=((Hq (Cj t)).1,(Hq (Cj t)).2,(A8 [45] t).1.dropWhile L1)
theorem LK(t:List UInt8):(U0 t).2.2.length≤t.length:=Nat.le_trans (J7 _ _) (K2 _ _)
abbrev K3:List UInt8:=[32,117,110,100,101,114,32]
abbrev I3:List UInt8:=[32,102,114,111,109,32]
abbrev e8:List UInt8:=[32,116,111,32]
abbrev S0:List UInt8:=[32,109,105,115,115,105,110,103]
abbrev K7:List UInt8:=[32,97,110,100,32]
abbrev P1:List UInt8:=[32,111,114,32]
abbrev L4:List UInt8:=[110,111,116,32]
abbrev u7:List UInt8:=[97,108,108]
def AL(s:A5)(col:Int)(t:List UInt8):A1×Bool×List UInt8 :=
 if (A8 K3 t).2=true then
  if (C7 s col).kind=2 then (.mk 2 col (z8 (E2 s (C7 s col)).1 (E2 s (C7 s col)).2 ((A8 K3 t).1.takeWhile L1)) 0 0 [],decide (0≤z8 (E2 s (C7 s col)).1 (E2 s (C7 s col)).2 ((A8 K3 t).1.takeWhile L1)),(A8 K3 t).1.dropWhile L1)
  else (.mk 2 col 0 0 0 [],false,(A8 K3 t).1)
 else if (A8 I3 t).2=true then
  if (U0 (A8 I3 t).1).2.1=true then
   if (A8 e8 (U0 (A8 I3 t).1).2.2).2=true then
    (.mk 3 col 0 (U0 (A8 I3 t).1).1 (U0 (A8 e8 (U0 (A8 I3 t).1).2.2).1).1 [],(U0 (A8 e8 (U0 (A8 I3 t).1).2.2).1).2.1,(U0 (A8 e8 (U0 (A8 I3 t).1).2.2).1).2.2)
   else (.mk 3 col 0 0 0 [],false,(U0 (A8 I3 t).1).2.2)
  else (.mk 3 col 0 0 0 [],false,(U0 (A8 I3 t).1).2.2)
 else if (A8 S0 t).2=true then (.mk 4 col 0 0 0 [],true,(A8 S0 t).1)
 else (.mk 0 col 0 0 0 [],false,t)
structure IL where
 c:A1
 ok:Bool
 t:List UInt8
 left:Int
def At(f:Int→List UInt8→IL)(left:Int)(t:List UInt8):IL :=
 if (f left t).ok=true then
  if (A8 K7 (f left t).t).2=true then
   if (f (f left t).left (A8 K7 (f left t).t).1).ok=true then ⟨.mk 5 0 0 0 0 [(f left t).c,(f (f left t).left (A8 K7 (f left t).t).1).c],(A8 [41] (f (f left t).left (A8 K7 (f left t).t).1).t).2,(A8 [41] (f (f left t).left (A8 K7 (f left t).t).1).t).1,(f (f left t).left (A8 K7 (f left t).t).1).left⟩
   else ⟨.mk 5 0 0 0 0 [(f left t).c,(f (f left t).left (A8 K7 (f left t).t).1).c],false,(f (f left t).left (A8 K7 (f left t).t).1).t,(f (f left t).left (A8 K7 (f left t).t).1).left⟩
  else if (A8 P1 (f left t).t).2=true then
   if (f (f left t).left (A8 P1 (f left t).t).1).ok=true then ⟨.mk 6 0 0 0 0 [(f left t).c,(f (f left t).left (A8 P1 (f left t).t).1).c],(A8 [41] (f (f left t).left (A8 P1 (f left t).t).1).t).2,(A8 [41] (f (f left t).left (A8 P1 (f left t).t).1).t).1,(f (f left t).left (A8 P1 (f left t).t).1).left⟩
   else ⟨.mk 6 0 0 0 0 [(f left t).c,(f (f left t).left (A8 P1 (f left t).t).1).c],false,(f (f left t).left (A8 P1 (f left t).t).1).t,(f (f left t).left (A8 P1 (f left t).t).1).left⟩
  else ⟨.mk 6 0 0 0 0 [],false,(f left t).t,(f left t).left⟩
 else ⟨(f left t).c,false,(f left t).t,(f left t).left⟩
def N9(s:A5):Nat→Int→List UInt8→IL
 |0,left,t=>⟨.mk 0 0 0 0 0 [],false,t,left-1⟩
 |d+1,left,t =>
  if left-1<0 then ⟨.mk 0 0 0 0 0 [],false,t,left-1⟩
  else if (A8 [40] t).2=true then At (fun l u=>N9 s d l u) (left-1) (A8 [40] t).1
  else if (A8 L4 t).2=true then
   ⟨.mk 7 0 0 0 0 [(N9 s d (left-1) (A8 L4 t).1).c],(N9 s d (left-1) (A8 L4 t).1).ok,(N9 s d (left-1) (A8 L4 t).1).t,(N9 s d (left-1) (A8 L4 t).1).left⟩
  else if t.takeWhile L1=u7 then ⟨.mk 1 0 0 0 0 [],true,t.dropWhile L1,left-1⟩
  else if F0 s (t.takeWhile L1)<0 then ⟨.mk 0 0 0 0 0 [],false,t.dropWhile L1,left-1⟩
  else ⟨(AL s (F0 s (t.takeWhile L1)) (t.dropWhile L1)).1,(AL s (F0 s (t.takeWhile L1)) (t.dropWhile L1)).2.1,(AL s (F0 s (t.takeWhile L1)) (t.dropWhile L1)).2.2,left-1⟩
def wd:Nat→Int
 |0=>1
 |d+1=>2*wd d+1
theorem aL(s:A5)(col:Int)(t:List UInt8):(AL s col t).2.2.length≤t.length:=by
 have h1:=K2 K3 t
 have h2:=J7 L1 (A8 K3 t).1
 have h3:=K2 I3 t
 have h4:=LK (A8 I3 t).1
 have h5:=K2 e8 (U0 (A8 I3 t).1).2.2
 have h6:=LK (A8 e8 (U0 (A8 I3 t).1).2.2).1
 have h7:=K2 S0 t
 unfold AL
 (repeat' split)<;>(try dsimp only)<;>omega
theorem eA{f:Int→List UInt8→IL}{w:Int}(hf:∀l u,(f l u).t.length≤u.length∧l-w≤(f l u).left∧(f l u).left≤l)(left:Int)(t:List UInt8):(At f left t).t.length≤t.length∧left-2*w≤(At f left t).left∧(At f left t).left≤left∧0≤w∨w<0:=by
 by_cases hw:w<0
 ·exact .inr hw
 refine .inl ?_
 obtain⟨a1,a2,a3⟩:=hf left t
 have c1:=K2 K7 (f left t).t
 have c2:=K2 P1 (f left t).t
 obtain⟨b1,b2,b5⟩:=hf (f left t).left (A8 K7 (f left t).t).1
 obtain⟨b3,b4,b6⟩:=hf (f left t).left (A8 P1 (f left t).t).1
 have c3:=K2 [41] (f (f left t).left (A8 K7 (f left t).t).1).t
 have c4:=K2 [41] (f (f left t).left (A8 P1 (f left t).t).1).t
 unfold At
 (repeat' split)<;>(try dsimp only)<;>refine⟨?_,?_,?_,?_⟩<;>omega
theorem Mk:∀d,1≤wd d
 |0=>by decide
 |d+1=>by have:=Mk d;unfold wd;omega
theorem UL(s:A5):∀(d:Nat) (left:Int) (t:List UInt8),(N9 s d left t).t.length≤t.length∧left-wd d≤(N9 s d left t).left∧(N9 s d left t).left≤left
 |0,left,t=>⟨Nat.le_refl _,Int.le_refl _,by unfold N9;dsimp only;omega⟩
 |d+1,left,t=>by
  have ih:=UL s d
  have hw:=Mk d
  have c1:=K2 [40] t
  have c2:=K2 L4 t
  have c3:=J7 L1 t
  have c4:=aL s (F0 s (t.takeWhile L1)) (t.dropWhile L1)
  have hp:=eA (w:=wd d) (f:=fun l u=>N9 s d l u) ih (left-1) (A8 [40] t).1
  obtain⟨i1,i2,i3⟩:=ih (left-1) (A8 L4 t).1
  unfold N9 wd
  (repeat' split)<;>(try dsimp only)<;>refine⟨?_,?_,?_⟩<;>omega
def K5(s:A5)(t:List UInt8):A1×Int :=
 if C8 s=0 then
  (if (N9 s 10 40 t).ok=true∧(N9 s 10 40 t).t=[]∧G6 s (N9 s 10 40 t).c=0 then ((N9 s 10 40 t).c,0)else (.mk 0 0 0 0 0 [],11))
 else (.mk 0 0 0 0 0 [],C8 s)
def S9(s:A5)(col:Int):List UInt8:=(C7 s col).name
def BW(s:A5)(col code:Int):List UInt8:=((E2 s (C7 s col)).2.getD code.toNat ⟨[],0⟩).name
mutual
def C6(s:A5):A1→List UInt8
 |.mk o c k l h ks =>
  if o=2 then S9 s c++K3++BW s c k
  else if o=3 then S9 s c++I3++Lib.itoa l++e8++Lib.itoa h
  else if o=4 then S9 s c++S0
  else if o=5 then [40]++(JE s ks).getD 0 []++K7++(JE s ks).getD 1 []++[41]
  else if o=6 then [40]++(JE s ks).getD 0 []++P1++(JE s ks).getD 1 []++[41]
  else if o=7 then L4++(JE s ks).getD 0 []
  else u7
def JE(s:A5):List A1→List (List UInt8)
 |[]=>[]
 |x::r=>C6 s x::JE s r
end
theorem Fb(s:A5):∀l,JE s l=l.map (C6 s)
 |[]=>rfl
 |x::r=>by rw[JE,Fb s r];rfl
theorem LL{w t:List UInt8}:w.isPrefixOf t=true↔(w.length≤t.length∧t.take w.length=w):=by
 rw[List.isPrefixOf_iff_prefix]
 constructor
 ·rintro ⟨r,rfl⟩;simp
 ·rintro ⟨h1,h2⟩
  exact⟨t.drop w.length,by conv=>lhs;arg 1;rw[←h2]
                           exact List.take_append_drop _ _⟩
theorem DM(t w:List UInt8)(ht:t.length≤9223372036854775807)(hw:w.length≤9223372036854775807):A4 Tryz.prog 138 [.str t,.str w] (.b (w.isPrefixOf t)):=by
 have hp:=LL (w:=w) (t:=t)
 refine D0 Tryz.func138 18 fun ki E h0=>?_
 clear ki
 repeat'((first|refine S2 ?_|(refine T6 ?_ ?_<;>intro h<;>try exact V1 h)|intro el ke kg|intro el ke|exact T4|refine T5 ?_ ?_|intro ex)<;>try conv=>whnf)
 all_goals first
  |(refine A3 rfl (congrArg AV.b (Bool.eq_iff_iff.2 ?_));rw[hp];simp only[decide_eq_true_iff,Bool.false_eq_true,false_iff];omega)
  |(refine A3 rfl (congrArg AV.b (Bool.eq_iff_iff.2 ?_));rw[hp];simp only[decide_eq_true_iff,Bool.false_eq_true,false_iff];simp;omega)
  |(refine A3 rfl (congrArg AV.b (Bool.eq_iff_iff.2 ?_));rw[hp];clear h0;trace_state)
theorem Ml(t w:List UInt8)(ht:t.length≤9223372036854775807)(hw:w.length≤9223372036854775807):A4 Tryz.prog 128 [.str t,.str w] (.tup [.str (A8 w t).1,.b (A8 w t).2]):=by
 have hp:=DM t w ht hw
 have hq:=LL (w:=w) (t:=t)
 unfold A8
 refine D0 Tryz.func128 15 fun ki E h0=>?_
 clear ki
 by_cases h:w.isPrefixOf t=true
 ·rw[if_pos h]
  rw[h]at hp
  have hq:=hq.1 h
  repeat'((first|refine A0 hp ?_ |refine S2 ?_|(refine T6 ?_ ?_<;>intro h<;>try exact V1 h)|intro el ke kg|intro el ke|exact T4|refine T5 ?_ ?_|intro ex)<;>try conv=>whnf)
  all_goals first
   |exact O3 rfl rfl (congrArg (fun z=>AV.tup [AV.str z,.b true]) (by simp))
 ·have h2:w.isPrefixOf t=false:=eq_false_of_ne_true h
  rw[if_neg h]
  rw[h2]at hp
  repeat'((first|refine A0 hp ?_ |refine S2 ?_|(refine T6 ?_ ?_<;>intro h<;>try exact V1 h)|intro el ke kg|intro el ke|exact T4|refine T5 ?_ ?_|intro ex)<;>try conv=>whnf)
  all_goals first
   |exact O3 rfl rfl rfl
theorem Gx(t w:List UInt8)(ht:t.length≤9223372036854775807)(hw:w.length≤9223372036854775807):A4 Tryz.prog 86 [.str t,.str w] (.tup [.str (A8 w t).1,.b (A8 w t).2]):=by
 have hp:=Ml t w ht hw
 refine D0 Tryz.func86 11 fun ki E h0=>?_
 clear ki
 repeat'((first|refine A0 hp ?_ |refine S2 ?_|(refine T6 ?_ ?_<;>intro h<;>try exact V1 h)|intro el ke kg|intro el ke|exact T4|refine T5 ?_ ?_|intro ex)<;>try conv=>whnf)
 all_goals exact O3 rfl rfl rfl
abbrev EW(s:A5)(t:List UInt8)(left:Int):Hp:=[(0,some (.box [.sl 2 (s.lists.map R0),.sl 7 (s.cols.map M7),.str t,.i left]))]
theorem a7(s:A5)(t w:List UInt8)(left:Int)(ht:t.length≤9223372036854775807)(hw:w.length≤9223372036854775807):A9 Tryz.prog 179 1 (EW s t left) [.ref 0 0,.str w] 1 (EW s (A8 w t).1 left) (.b (A8 w t).2):=by
 have hp:=Gx t w ht hw
 refine G4 Tryz.func179 21 fun E h0=>?_
 repeat'((first|refine A0 hp ?_ |refine S2 ?_|(refine T6 ?_ ?_<;>intro h<;>try exact V1 h)|intro el ke kg|intro el ke|exact T4|refine T5 ?_ ?_|intro ex)<;>try conv=>whnf)
 all_goals exact D9 (B2 h0)
theorem aM{b:UInt8}(h:97≤b.toNat∧b.toNat≤122∨48≤b.toNat∧b.toNat≤57∨b.toNat=95):L1 b=true:=decide_eq_true h
theorem Xm{b:UInt8}(h:¬(97≤b.toNat∧b.toNat≤122∨48≤b.toNat∧b.toNat≤57∨b.toNat=95)):L1 b=false:=decide_eq_false h
def JF(t:List UInt8)(n:Nat):Prop:=n≤t.length∧∀i b,i<n→t[i]?=some b→L1 b=true
theorem JF.step{t:List UInt8}{n:Nat}{b:UInt8}(h:JF t n)(hb:t[n]?=some b)(hw:L1 b=true):JF t (n+1):=by
 refine⟨by have:=(List.getElem?_eq_some_iff.1 hb).1;omega,fun i c hi hc=>?_⟩
 by_cases e:i=n
 ·subst e;rw[hb]at hc;cases hc;exact hw
 ·exact h.2 i c (by omega) hc
theorem JF.ends{t:List UInt8}{n:Nat}{b:UInt8}(h:JF t n)(hb:t[n]?=some b)(hw:L1 b=false):t.takeWhile L1=t.take n∧t.dropWhile L1=t.drop n :=
 Fa (fun i c hi hc=>h.2 i c hi hc) h.1 (fun c hc=>by rw[hb]at hc;cases hc;exact hw)
theorem JF.all{t:List UInt8}{n:Nat}(h:JF t n)(hn:¬(n:Int)<t.length):t.takeWhile L1=t.take n∧t.dropWhile L1=t.drop n :=
 Fa (fun i c hi hc=>h.2 i c hi hc) h.1 (fun c hc=>by have:=(List.getElem?_eq_some_iff.1 hc).1;omega)
theorem JG(s:A5)(t:List UInt8)(left:Int)(ht:t.length≤9223372036854775806):A9 Tryz.prog 181 1 (EW s t left) [.ref 0 0] 1 (EW s (t.dropWhile L1) left) (.str (t.takeWhile L1)):=by
 refine G4 Tryz.func181 75 fun E h0=>?_
 repeat'((first|refine S2 ?_|(refine T6 ?_ ?_<;>intro h<;>try exact V1 h)|intro el ke kg|intro el ke|exact T4|refine T5 ?_ ?_|intro ex)<;>try conv=>whnf)
 refine D5 (ι:=Nat) (fun n=>⟨[(0,.ref 0 0),(3,.i n)],1,EW s t left⟩) (fun n=>JF t n) (fun n=>t.length-n) 0 ⟨Nat.zero_le _,fun i b hi=>absurd hi (Nat.not_lt_zero _)⟩ (B2 h0) (fun n hI=>?_)
 have hn:=hI.1
 by_cases kj:n<t.length
 ·obtain⟨b,hb⟩:∃b,t[n]?=some b:=⟨_,List.getElem?_eq_getElem kj⟩
  by_cases hw:97≤b.toNat∧b.toNat≤122∨48≤b.toNat∧b.toNat≤57∨b.toNat=95
  ·repeat'((first|(refine o8 (x:=b) hb (by omega) ?_) |refine S2 ?_|(refine T6 ?_ ?_<;>intro h<;>try exact V1 h)|intro el ke kg|intro el ke|exact T4|refine T5 ?_ ?_|intro ex)<;>try conv=>whnf)
   all_goals first
    |exact⟨n+1,hI.step hb (aM hw),by omega,B2 h0⟩
    |(exfalso;omega)
  ·obtain⟨e1,e2⟩:=hI.ends hb (Xm hw)
   rw[e1,e2]
   repeat'((first|(refine o8 (x:=b) hb (by omega) ?_) |refine S2 ?_|(refine T6 ?_ ?_<;>intro h<;>try exact V1 h)|intro el ke kg|intro el ke|exact T4|refine T5 ?_ ?_|intro ex)<;>try conv=>whnf)
   all_goals first
    |(exfalso;omega)
    |exact D9 (B0 h0 rfl ⟨congrArg (fun z=>some (AV.str z)) (by simp),trivial⟩ ⟨congrArg (fun z=>G1.box [.sl 2 (s.lists.map R0),.sl 7 (s.cols.map M7),.str z,.i left]) (by simp),trivial⟩ rfl rfl rfl)
 ·obtain⟨e1,e2⟩:=hI.all (by omega)
  rw[e1,e2]
  repeat'((first|refine S2 ?_|(refine T6 ?_ ?_<;>intro h<;>try exact V1 h)|intro el ke kg|intro el ke|exact T4|refine T5 ?_ ?_|intro ex)<;>try conv=>whnf)
  all_goals first
   |(exfalso;omega)
   |exact D9 (B0 h0 rfl ⟨congrArg (fun z=>some (AV.str z)) (by simp),trivial⟩ ⟨congrArg (fun z=>G1.box [.sl 2 (s.lists.map R0),.sl 7 (s.cols.map M7),.str z,.i left]) (by simp),trivial⟩ rfl rfl rfl)
theorem eC:∀d:Fin 10,(UInt8.ofNat (48+d.val)).toNat=48+d.val:=by decide
theorem Mm{d:Nat}(h:d<10):(UInt8.ofNat (48+d)).toNat=48+d:=eC ⟨d,h⟩
theorem JH:∀(l:List UInt8) (sf u d:Nat),Lib.parseUint10 sf l=.ok u→d<10→u*10+d<1000000000000000000→u<1844674407370955162→Lib.parseUint10 sf (l++[UInt8.ofNat (48+d)])=.ok (u*10+d)
 |[],sf,u,d,h,hd,hb,hu=>by
  unfold Lib.parseUint10 at h
  cases h
  have e:=Mm hd
  show Lib.parseUint10 sf [UInt8.ofNat (48+d)]=_
  unfold Lib.parseUint10
  rw[if_pos (by omega),if_neg (by omega),if_neg (by omega)]
  unfold Lib.parseUint10
  rw[e]
  congr 1
  omega
 |c::r,sf,u,d,h,hd,hb,hu=>by
  unfold Lib.parseUint10 at h
  rw[List.cons_append]
  unfold Lib.parseUint10
  split at h
  ·rename_i h1
   rw[if_pos h1]
   split at h
   ·cases h
   ·rename_i h2
    rw[if_neg h2]
    split at h
    ·cases h
    ·rename_i h3
     rw[if_neg h3]
     exact JH r _ u d h hd hb hu
  ·cases h
def x5(c:UInt8):Bool:=decide (48≤c.toNat∧c.toNat≤57)
theorem JI(u:Nat):u<1000000000000000000→Lib.parseUint10 0 (Lib.decDigits u)=.ok u∧(Lib.decDigits u).all x5=true∧Lib.decDigits u≠[]:=by
 induction u using Nat.strongRecOn with
 |ind u ih =>
  intro h
  rw[Lib.decDigits]
  by_cases h1:u<10
  ·rw[dif_pos h1]
   have e:=Mm h1
   refine⟨?_,?_,by simp⟩
   ·have:=JH [] 0 0 u rfl h1 (by omega) (by omega)
    simpa using this
   ·simp only[List.all_cons,List.all_nil,Bool.and_true,x5,decide_eq_true_eq]
    omega
  ·rw[dif_neg h1]
   obtain⟨i1,i2,i3⟩:=ih (u / 10) (by omega) (by omega)
   have hd:u % 10<10:=by omega
   have e:=Mm hd
   refine⟨?_,?_,by simp⟩
   ·rw[JH _ 0 (u / 10) (u % 10) i1 hd (by omega) (by omega)]
    congr 1
    omega
   ·rw[List.all_append,i2]
    simp only[List.all_cons,List.all_nil,Bool.and_true,Bool.true_and,x5,decide_eq_true_eq]
    omega
theorem Gy{c:UInt8}(h:x5 c=true):L1 c=true:=by
 unfold x5 at h
 unfold L1
 have:=of_decide_eq_true h
 exact decide_eq_true (.inr (.inl this))
theorem Fc{l:List UInt8}{c:UInt8}{r:List UInt8}(h:l.all x5=true)(e:l=c::r):48≤c.toNat∧c.toNat≤57:=by
 subst e
 rw[List.all_cons,Bool.and_eq_true]at h
 exact of_decide_eq_true h.1
theorem Xn{n:Int}(h1:-100000000000000≤n)(h2:n≤100000000000000):Lib.atoiAll (Lib.itoa n)=.ok n:=by
 unfold Lib.itoa
 by_cases h:n<0
 ·rw[if_pos h]
  obtain⟨d1,d2,d3⟩:=JI n.natAbs (by omega)
  unfold Lib.atoiAll
  have e:(45:UInt8).toNat=45:=rfl
  dsimp only
  rw[if_pos (.inr e)]
  have hm:Lib.parseMag (Lib.decDigits n.natAbs)=.ok n.natAbs:=by
   unfold Lib.parseMag
   rw[if_neg d3];exact d1
  rw[hm]
  dsimp only
  rw[if_neg (fun hh=>hh.1 e),if_neg (by omega),if_pos e]
  congr 1
  omega
 ·rw[if_neg h]
  obtain⟨d1,d2,d3⟩:=JI n.toNat (by omega)
  cases hc:Lib.decDigits n.toNat with
  |nil=>exact absurd hc d3
  |cons c r =>
   have hh:=Fc d2 hc
   unfold Lib.atoiAll
   dsimp only
   rw[if_neg (by omega)]
   have hm:Lib.parseMag (c::r)=.ok n.toNat:=by
    unfold Lib.parseMag
    rw[if_neg (by simp),←hc]
    exact d1
   rw[hm]
   dsimp only
   rw[if_neg (by omega),if_neg (by omega),if_neg (by omega)]
   congr 1
   omega
def CB(u:List UInt8):Prop:=∀b r,u=b::r→L1 b=false
theorem Fe:∀{n u:List UInt8},n.all L1=true→CB u→(n++u).takeWhile L1=n∧(n++u).dropWhile L1=u
 |[],u,_,hu=>by
  rw[List.nil_append]
  cases u with
  |nil=>exact⟨rfl,rfl⟩
  |cons b r =>
   have:=hu b r rfl
   rw[List.takeWhile_cons,List.dropWhile_cons,this]
   exact⟨rfl,rfl⟩
 |c::r,u,h,hu=>by
  rw[List.all_cons,Bool.and_eq_true]at h
  obtain⟨i1,i2⟩:=Fe h.2 hu
  rw[List.cons_append,List.takeWhile_cons,List.dropWhile_cons,h.1,i1,i2]
  exact⟨rfl,rfl⟩
theorem M5(w u:List UInt8):A8 w (w++u)=(u,true):=by
 have h:w.isPrefixOf (w++u)=true:=by
  rw[List.isPrefixOf_iff_prefix]
  exact List.prefix_append w u
 unfold A8
 rw[if_pos h,List.drop_left]
theorem Hr{a b:UInt8}{w u:List UInt8}(h:a≠b):A8 (a::w) (b::u)=(b::u,false):=by
 unfold A8
 rw[if_neg (by
  rw[List.isPrefixOf_cons_cons]
  simp[h])]
theorem N4{w t:List UInt8}(h:(A8 w t).2=true):t=w++(A8 w t).1:=by
 unfold A8 at h ⊢
 split
 ·rename_i hp
  rw[List.isPrefixOf_iff_prefix]at hp
  obtain⟨v,rfl⟩:=hp
  dsimp only
  rw[List.drop_left]
 ·rename_i hp
  rw[if_neg hp]at h
  cases h
theorem Xo{w t:List UInt8}(h:¬(A8 w t).2=true):A8 w t=(t,false):=by
 unfold A8 at h ⊢
 split
 ·rename_i hp
  rw[if_pos hp]at h
  exact absurd rfl h
 ·rfl
theorem Hs(t:List UInt8):t.takeWhile L1++t.dropWhile L1=t:=List.takeWhile_append_dropWhile
theorem JJ:∀(k u:Nat),u<10 ^ (k+1)→(Lib.decDigits u).length≤k+1
 |0,u,h=>by
  rw[Lib.decDigits,dif_pos (by simpa using h)];simp
 |k+1,u,h=>by
  rw[Lib.decDigits]
  by_cases h1:u<10
  ·rw[dif_pos h1];simp
  ·rw[dif_neg h1,List.length_append,List.length_singleton]
   have:=JJ k (u / 10) (by rw[Nat.pow_succ]at h;omega)
   omega
theorem aN{n:Int}(h1:-100000000000000≤n)(h2:n≤100000000000000){u:List UInt8}(hu:CB u):U0 (Lib.itoa n++u)=(n,true,u)∧((A8 [45] (Lib.itoa n++u)).1.takeWhile L1).length≤15:=by
 have px:=Xn h1 h2
 have key:Cj (Lib.itoa n++u)=Lib.itoa n∧(A8 [45] (Lib.itoa n++u)).1.dropWhile L1=u∧((A8 [45] (Lib.itoa n++u)).1.takeWhile L1).length≤15:=by
  unfold Lib.itoa
  by_cases h:n<0
  ·rw[if_pos h]
   obtain⟨_,d2,_⟩:=JI n.natAbs (by omega)
   have dw:(Lib.decDigits n.natAbs).all L1=true:=by
    rw[List.all_eq_true]at d2 ⊢
    exact fun c hc=>Gy (d2 c hc)
   have e:A8 [45] (45::Lib.decDigits n.natAbs++u)=(Lib.decDigits n.natAbs++u,true):=M5 [45] _
   unfold Cj
   rw[e]
   dsimp only
   obtain⟨t1,t2⟩:=Fe dw hu
   rw[t1,t2]
   exact⟨rfl,rfl,JJ 14 _ (by omega)⟩
  ·rw[if_neg h]
   obtain⟨_,d2,d3⟩:=JI n.toNat (by omega)
   have dw:(Lib.decDigits n.toNat).all L1=true:=by
    rw[List.all_eq_true]at d2 ⊢
    exact fun c hc=>Gy (d2 c hc)
   obtain⟨t1,t2⟩:=Fe dw hu
   have e:A8 [45] (Lib.decDigits n.toNat++u)=(Lib.decDigits n.toNat++u,false):=by
    cases hc:Lib.decDigits n.toNat with
    |nil=>exact absurd hc d3
    |cons c r =>
     have hh:=Fc d2 hc
     exact Hr (by intro e;rw[←e]at hh;exact absurd hh.1 (by decide))
   unfold Cj
   rw[e]
   dsimp only
   rw[t1,t2]
   exact⟨rfl,rfl,JJ 14 _ (by omega)⟩
 refine⟨?_,key.2.2⟩
 unfold U0
 rw[key.1,key.2.1]
 unfold Hq
 rw[px]
 dsimp only
 rw[decide_eq_true rfl]
theorem UM{n:Int}(h1:-100000000000000≤n)(h2:n≤100000000000000){u:List UInt8}(hu:CB u):U0 (Lib.itoa n++u)=(n,true,u):=(aN h1 h2 hu).1
theorem UN{t:List UInt8}(h:(U0 t).2.1=true):t=Lib.itoa (U0 t).1++(U0 t).2.2:=by
 have hz:t=Cj t++(U0 t).2.2:=by
  show t=Cj t++(A8 [45] t).1.dropWhile L1
  unfold Cj
  rw[List.append_assoc,Hs]
  by_cases hc:(A8 [45] t).2=true
  ·rw[if_pos hc];exact N4 hc
  ·rw[if_neg hc,Xo hc];rfl
 have hv:Lib.itoa (U0 t).1=Cj t:=by
  have h':(Hq (Cj t)).2=true:=h
  show Lib.itoa (Hq (Cj t)).1=Cj t
  unfold Hq at h' ⊢
  split
  ·rename_i n hn
   rw[hn]at h'
   exact of_decide_eq_true h'
  ·rename_i hn;rw[hn]at h';cases h'
  ·rename_i hn;rw[hn]at h';cases h'
 rw[hv]
 exact hz
end Go.Proofs.YtkcekccdcpmekaaGreatDoor
