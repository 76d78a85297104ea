/- Draws: measures. Chapter 2: what every drawn schema is like. Nothing laid is an empty row: in arguments of calls, and in rows of one's own. Draws: schemas. Chapter 2: the example of the chapter. -/
import Derived.Test.YtiphlhoclaogjabGreatDoorQB5
import Derived.Test.YtiphlhoclaogjabGreatDoorQB7
import Derived.Test.YtiphlhoclaogjabGreatDoorQE3
import Derived.Test.YtiphlhoclaogjabGreatDoorQAvTy
import Derived.Test.YtiphlhoclaogjabGreatDoorQB8
set_option linter.unusedVariables false
set_option linter.unnecessarySimpa false
set_option linter.unusedSimpArgs false
namespace Go.Proofs.YtiphlhoclaogjabGreatDoor
open Go Go.Av
attribute [local irreducible] D6 B8 D8 D7 DQ E0 E1 St.le B4 B9
set_option maxRecDepth 100000
def BL:List (List Int):=[[1],[1,5],[1,5,20],[1,2,4,12]]
def W7 (l:List UInt8) (a:Nat) (nm:List UInt8):C5 × Nat :=
 let low:=-4 + ((C9 l a 7).1:Int)
 let a1:=(C9 l a 7).2
 let a2:=(C9 l a1 4).2
 let a3:=(C9 l a2 3).2
 (⟨nm,3,0,low,low + ((C9 l a3 45).1:Int),BL.getD (C9 l a1 4).1 [],decide (((C9 l a2 3).1:Int) = 2)⟩,(C9 l a3 45).2)
theorem Xn {n:Nat} {F:List AV → Prop} (h:(n:Int) < 4) (k:F [.sl 1 ((BL.getD n []).map wA)]):N5 (BL.map fun ws=>[AV.sl 1 (ws.map wA)]) (n:Int) F:=by
 refine f9 (by show n < 4;omega) fun x hx=>?_
 rw [List.getD_eq_getElem?_getD,hx] at k
 exact k
set_option maxHeartbeats 4000000 in
theorem Lk (l:List UInt8) (a:Nat) (nm:List UInt8) (hl:l.length ≤ 400):B9 Tryz.prog 52 1 (s9 l a) [.ref 0 0, .str nm] 1 (s9 l (W7 l a nm).2) (M4 (W7 l a nm).1):=by
 have h7:=N7 l a (n:=7) (by omega)
 have h4:=N7 l (C9 l a 7).2 (n:=4) (by omega)
 refine J1 Tryz.func52 28 fun E h0=>?_
 repeat' ((first|refine A4 ?_|refine S1 ?_|refine Z1 ?_|refine Z2 ?_|(refine And.intro ?_ ?_<;>intro h<;>try first|(exfalso;omega)|exact absurd rfl h)|refine Z3 ?_|refine Z4 ?_|intro el hel hbB|intro el hel|intro ex|refine Z5 ?_|(refine A9 ?_ ?_;exact ⟨by kernel_rfl,by decide⟩)|refine A8 ?_ ?_|exact A7|refine A6 ?_ ?_|exact A5|(refine A0 ?_ ?_ ?_;kernel_rfl;kernel_rfl)) <;> (try (conv=>whnf)))
 refine G6 ⟨[(0, .ref 0 0),(4, .ref 1 0),(5, .ref 2 0)],3,[(0,some (.box [.sl 1 (l.map T7), .i (C9 l (C9 l (C9 l a 7).2 4).2 3).2])),(1,some (.box [.str [], .i 0, .i 0, .i 0, .i 0, .v (.slice none 0 0), .b false])),(2,some (.box [.str nm, .i 3, .i 0, .i (-4 + ((C9 l a 7).1:Int)), .i 0, .sl 1 ((BL.getD (C9 l (C9 l a 7).2 4).1 []).map wA), .b (decide (((C9 l (C9 l (C9 l a 7).2 4).2 3).1:Int) = 2))]))]⟩ ?_ ?_
 ·repeat' ((first | refine ⟨P5 [0] [0] (k9 _ _ _ _ hl (by omega) (by omega) (by omega)) rfl rfl rfl rfl rfl ⟨rfl,trivial⟩ rfl rfl rfl rfl rfl ?_⟩ | refine ⟨P5 [0] [0] (Bj _ _ _ hl (by omega)) rfl rfl rfl rfl rfl ⟨rfl,trivial⟩ rfl rfl rfl rfl rfl ?_⟩ | refine ⟨P5 [0] [0] (t8 _ _ _ hl) rfl rfl rfl rfl rfl ⟨rfl,trivial⟩ rfl rfl rfl rfl rfl ?_⟩ | refine Xn h4 ?_ |refine A4 ?_|refine S1 ?_|refine Z1 ?_|refine Z2 ?_|(refine And.intro ?_ ?_<;>intro h<;>try first|(exfalso;omega)|exact absurd rfl h)|refine Z3 ?_|refine Z4 ?_|intro el hel hbB|intro el hel|intro ex|refine Z5 ?_|(refine A9 ?_ ?_;exact ⟨by kernel_rfl,by decide⟩)|refine A8 ?_ ?_|exact A7|refine A6 ?_ ?_|exact A5|(refine A0 ?_ ?_ ?_;kernel_rfl;kernel_rfl)) <;> (try (conv=>whnf)))
  all_goals first
   | exact B0 h0 rfl ⟨rfl,rfl,rfl,trivial⟩ ⟨rfl,rfl,rfl,trivial⟩ rfl rfl rfl
 repeat' ((first|refine A4 ?_|refine S1 ?_|refine Z1 ?_|refine Z2 ?_|(refine And.intro ?_ ?_<;>intro h<;>try first|(exfalso;omega)|exact absurd rfl h)|refine Z3 ?_|refine Z4 ?_|intro el hel hbB|intro el hel|intro ex|refine Z5 ?_|(refine A9 ?_ ?_;exact ⟨by kernel_rfl,by decide⟩)|refine A8 ?_ ?_|exact A7|refine A6 ?_ ?_|exact A5|(refine A0 ?_ ?_ ?_;kernel_rfl;kernel_rfl)) <;> (try (conv=>whnf)))
 refine G6 ⟨[(0, .ref 0 0),(4, .ref 1 0),(5, .ref 2 0)],3,[(0,some (.box [.sl 1 (l.map T7), .i (C9 l (C9 l (C9 l (C9 l a 7).2 4).2 3).2 45).2])),(1,some (.box [.str [], .i 0, .i 0, .i 0, .i 0, .v (.slice none 0 0), .b false])),(2,some (.box [.str nm, .i 3, .i 0, .i (-4 + ((C9 l a 7).1:Int)), .i (-4 + ((C9 l a 7).1:Int) + ((C9 l (C9 l (C9 l (C9 l a 7).2 4).2 3).2 45).1:Int)), .sl 1 ((BL.getD (C9 l (C9 l a 7).2 4).1 []).map wA), .b (decide (((C9 l (C9 l (C9 l a 7).2 4).2 3).1:Int) = 2))]))]⟩ ?_ ?_
 ·have h45:=N7 l (C9 l (C9 l (C9 l a 7).2 4).2 3).2 (n:=45) (by omega)
  repeat' ((first | refine ⟨P5 [0] [0] (t8 _ _ _ hl) rfl rfl rfl rfl rfl ⟨rfl,trivial⟩ rfl rfl rfl rfl rfl ?_⟩ |refine A4 ?_|refine S1 ?_|refine Z1 ?_|refine Z2 ?_|(refine And.intro ?_ ?_<;>intro h<;>try first|(exfalso;omega)|exact absurd rfl h)|refine Z3 ?_|refine Z4 ?_|intro el hel hbB|intro el hel|intro ex|refine Z5 ?_|(refine A9 ?_ ?_;exact ⟨by kernel_rfl,by decide⟩)|refine A8 ?_ ?_|exact A7|refine A6 ?_ ?_|exact A5|(refine A0 ?_ ?_ ?_;kernel_rfl;kernel_rfl)) <;> (try (conv=>whnf)))
  all_goals first
   | exact B0 h0 rfl ⟨rfl,rfl,rfl,trivial⟩ ⟨rfl,rfl,rfl,trivial⟩ rfl rfl rfl
 repeat' ((first|refine A4 ?_|refine S1 ?_|refine Z1 ?_|refine Z2 ?_|(refine And.intro ?_ ?_<;>intro h<;>try first|(exfalso;omega)|exact absurd rfl h)|refine Z3 ?_|refine Z4 ?_|intro el hel hbB|intro el hel|intro ex|refine Z5 ?_|(refine A9 ?_ ?_;exact ⟨by kernel_rfl,by decide⟩)|refine A8 ?_ ?_|exact A7|refine A6 ?_ ?_|exact A5|(refine A0 ?_ ?_ ?_;kernel_rfl;kernel_rfl)) <;> (try (conv=>whnf)))
 exact H8 (rvs:=[.cell 4 49]) (vs:=[_]) ⟨1,_,_,rfl,rfl,inferInstance,rfl,rfl,trivial⟩ rfl rfl (B0 h0 rfl ⟨rfl,trivial⟩ ⟨rfl,trivial⟩ rfl rfl rfl) rfl
def Ll:C5:=⟨[119,104,111],1,0,0,0,[],false⟩
def Ek:C5:=⟨[115,101,120],2,0,0,0,[],false⟩
def Lm:C5:=⟨[106,111,98],2,1,0,0,[],false⟩
def Y4 (n:Nat):List UInt8:=[109] ++ o6 n
def j6 (l:List UInt8):List C5 × Nat → Nat → List C5 × Nat
 | s,0=>s
 | s,k + 1=>j6 l (s.1 ++ [(W7 l s.2 (Y4 s.1.length)).1],(W7 l s.2 (Y4 s.1.length)).2) k
abbrev Ay:List UInt8:=[116,119,111]
abbrev F6:List UInt8:=[111,110,101]
def Q4 (b:Bool):List C5:=cond b [Ll,Ek,Lm] [Ll,Ek]
def l8 (l:List UInt8) (a:Nat):C4 × Nat :=
 let l1:=I2 l a
 let l2:=I2 l l1.2
 let b:=C9 l l2.2 2
 let m:=C9 l b.2 3
 let r:=j6 l (Q4 (decide ((b.1:Int) = 1)),m.2) (1 + m.1)
 (⟨[(F6,l1.1),(Ay,l2.1)],r.1⟩,r.2)
structure T3 (c:C5) (nm:List UInt8):Prop where
 name:c.name = nm
 kind:c.kind = 3
 lst:c.lst = 0
 low:-4 ≤ c.low ∧ c.low ≤ 2
 high:c.low ≤ c.high ∧ c.high ≤ c.low + 44
 wid:c.widths ∈ BL
theorem WG (l:List UInt8) (a:Nat) (nm:List UInt8):T3 (W7 l a nm).1 nm:=by
 have h7:=N7 l a (n:=7) (by omega)
 have h4:=N7 l (C9 l a 7).2 (n:=4) (by omega)
 have h45:=N7 l (C9 l (C9 l (C9 l a 7).2 4).2 3).2 (n:=45) (by omega)
 refine ⟨rfl,rfl,rfl,?_,?_,?_⟩
 ·simp only [W7];omega
 ·simp only [W7];omega
 ·simp only [W7]
  have hlt:(C9 l (C9 l a 7).2 4).1 < BL.length:=by show _ < 4;omega
  rw [List.getD_eq_getElem?_getD,List.getElem?_eq_getElem hlt]
  exact List.getElem_mem hlt
theorem GD (l:List UInt8):∀ (k:Nat) (s:List C5 × Nat), ∃ ms,(j6 l s k).1 = s.1 ++ ms ∧ ms.length = k ∧ ∀ (i:Nat) c,ms[i]? = some c → T3 c (Y4 (s.1.length + i))
 | 0,s=>⟨[],by simp [j6],rfl,fun i c h=>by simp at h⟩
 | k + 1,s=>by
   obtain ⟨ms,h1,h2,h3⟩:=GD l k (s.1 ++ [(W7 l s.2 (Y4 s.1.length)).1],(W7 l s.2 (Y4 s.1.length)).2)
   refine ⟨(W7 l s.2 (Y4 s.1.length)).1 :: ms,?_,by simp [h2],fun i c hc=>?_⟩
   ·rw [j6,h1];simp
   ·cases i with
    | zero=>simp at hc;subst hc;exact WG _ _ _
    | succ i =>
      have:=h3 i c (by simpa using hc)
      simp only [List.length_append,List.length_singleton] at this
      rwa [show s.1.length + (i + 1) = s.1.length + 1 + i by omega]
structure J9 (s:C4):Prop where
 ls:∃ l1 l2,l1 ∈ GB ∧ l2 ∈ GB ∧ s.lists = [(F6,l1),(Ay,l2)]
 cs:∃ b ms,s.cols = Q4 b ++ ms ∧ 1 ≤ ms.length ∧ ms.length ≤ 3 ∧ ∀ (i:Nat) c,ms[i]? = some c → T3 c (Y4 ((Q4 b).length + i))
theorem Hk (l:List UInt8) (a:Nat):J9 (l8 l a).1:=by
 refine ⟨⟨_,_,Jg l a,Jg l (I2 l a).2,rfl⟩,?_⟩
 have h3:=N7 l (C9 l (I2 l (I2 l a).2).2 2).2 (n:=3) (by omega)
 obtain ⟨ms,h1,h2,h4⟩:=GD l (1 + (C9 l (C9 l (I2 l (I2 l a).2).2 2).2 3).1) (Q4 (decide (((C9 l (I2 l (I2 l a).2).2 2).1:Int) = 1)),(C9 l (C9 l (I2 l (I2 l a).2).2 2).2 3).2)
 exact ⟨_,ms,h1,by omega,by omega,h4⟩
def Ln (b:Bool) (n:Nat):List (List UInt8):=(Q4 b).map (·.name) ++ (List.range n).map fun i=>Y4 ((Q4 b).length + i)
def VG (l:List (List UInt8)):Bool:=(List.range l.length).all fun i=>E7 (l.getD i []) && !((l.take i).any fun x=>decide (x = l.getD i []))
theorem TV:([true,false].all fun b=>[1,2,3].all fun n=>VG (Ln b n)) = true:=by decide +kernel
def RE (cs:List Code):Bool:=decide (chk F6 cs = 0) && decide (chk Ay cs = 0) && decide (1 ≤ F4 F6 cs ∧ F4 F6 cs ≤ 5) && decide (cs.length ≤ 10) && decide (1 ≤ (O3 F6 cs (F4 F6 cs - 1)).length ∧ (O3 F6 cs (F4 F6 cs - 1)).length ≤ 10) && ((O3 F6 cs (F4 F6 cs - 1)).all fun k=>decide (k < cs.length))
theorem WH:GB.all RE = true:=by decide +kernel
structure ZL (cs:List Code):Prop where
 one:chk F6 cs = 0
 two:chk Ay cs = 0
 lv:1 ≤ F4 F6 cs ∧ F4 F6 cs ≤ 5
 len:cs.length ≤ 10
 at':1 ≤ (O3 F6 cs (F4 F6 cs - 1)).length ∧ (O3 F6 cs (F4 F6 cs - 1)).length ≤ 10
 mem:∀ k ∈ O3 F6 cs (F4 F6 cs - 1),k < cs.length
theorem Aq {cs:List Code} (h:cs ∈ GB):ZL cs:=by
 have:=List.all_eq_true.1 WH _ h
 simp only [RE,Bool.and_eq_true,decide_eq_true_eq,List.all_eq_true] at this
 obtain ⟨⟨⟨⟨⟨h1,h2⟩,h3⟩,h4⟩,h5⟩,h6⟩:=this
 exact ⟨h1,h2,h3,h4,h5,h6⟩
theorem Lo {a b:List UInt8} (h:E7 a = E7 b) (cs:List Code):chk a cs = chk b cs:=by unfold chk;rw [h]
theorem WI {a b:List UInt8} (h:E7 a = E7 b) (cs:List Code) (k:Int):hasB a cs k = hasB b cs k:=by unfold hasB;rw [Lo h]
theorem x8 {a b:List UInt8} (h:E7 a = E7 b) (cs:List Code):F4 a cs = F4 b cs:=by unfold F4;rw [Lo h]
theorem Lp {a b:List UInt8} (h:E7 a = E7 b) (cs:List Code) (k lv:Int):o0 a cs k lv = o0 b cs k lv:=by unfold o0;rw [WI h]
theorem Cr {a b:List UInt8} (h:E7 a = E7 b) (cs:List Code) (lv:Int):O3 a cs lv = O3 b cs lv:=by unfold O3;rw [Lo h]
theorem Xo:E7 Ay = E7 F6:=by decide
theorem Di {α:Type} {f:Nat → α → Int}:∀ {l:List α} {k:Nat},(∀ (i:Nat) x,l[i]? = some x → f (k + i) x = 0) → M2 f k l = 0
 | [],k,_=>rfl
 | y :: r,k,h=>by
   have h0:=h 0 y rfl
   simp only [Nat.add_zero] at h0
   rw [M2,if_pos h0]
   refine Di fun i x hx=>?_
   have:=h (i + 1) x (by simpa using hx)
   rwa [show k + (i + 1) = k + 1 + i by omega] at this
theorem T3.meaE {c:C5} {nm:List UInt8} (h:T3 c nm):meaE c = 0:=by
 have h1:=h.low
 have h2:=h.high
 have h3:=h.wid
 unfold Go.Proofs.YtiphlhoclaogjabGreatDoor.meaE
 rw [if_neg (by omega)]
 simp only [BL,List.mem_cons,List.not_mem_nil,or_false] at h3
 rcases h3 with h3 | h3 | h3 | h3 <;> rw [h3] <;> decide
theorem T3.used {c:C5} {nm:List UInt8} (h:T3 c nm):BK c = true:=by
 unfold BK
 rw [h.kind,h.lst]
 simp
theorem T3.kindE {c:C5} {nm:List UInt8} (h:T3 c nm) (s:C4) (i:Nat):kindE s i c = 0:=by
 unfold Go.Proofs.YtiphlhoclaogjabGreatDoor.kindE
 rw [h.kind]
 simp [h.meaE]
theorem J9.col {s:C4} (h:J9 s) {i:Nat} {c:C5} (hc:s.cols[i]? = some c):(i = 0 ∧ c = Ll) ∨ (0 < i ∧ (c = Ek ∨ c = Lm)) ∨ (0 < i ∧ ∃ nm,T3 c nm):=by
 obtain ⟨b,ms,h1,_,_,h4⟩:=h.cs
 rw [h1,List.getElem?_append] at hc
 split at hc
 ·cases b <;> simp only [Q4,_root_.cond_true,_root_.cond_false,List.length_cons,List.length_nil] at hc
  ·match i,hc with
   | 0,hc=>cases hc;exact .inl ⟨rfl,rfl⟩
   | 1,hc=>cases hc;exact .inr (.inl ⟨by omega, .inl rfl⟩)
   | n + 2,hc=>simp at hc
  ·match i,hc with
   | 0,hc=>cases hc;exact .inl ⟨rfl,rfl⟩
   | 1,hc=>cases hc;exact .inr (.inl ⟨by omega, .inl rfl⟩)
   | 2,hc=>cases hc;exact .inr (.inl ⟨by omega, .inr rfl⟩)
   | n + 3,hc=>simp at hc
 ·rename_i hlt
  refine .inr (.inr ⟨?_,_,h4 _ c hc⟩)
  cases b <;> simp [Q4] at hlt <;> omega
theorem J9.names {s:C4} (h:J9 s):VG (s.cols.map (·.name)) = true:=by
 obtain ⟨b,ms,h1,h2,h3,h4⟩:=h.cs
 have e:s.cols.map (·.name) = Ln b ms.length:=by
  rw [h1,List.map_append]
  unfold Ln
  congr 1
  refine List.ext_getElem? fun i=>?_
  rw [List.getElem?_map,List.getElem?_map]
  by_cases hi:i < ms.length
  ·rw [List.getElem?_eq_getElem hi,List.getElem?_range hi]
   simp only [Option.map_some]
   rw [(h4 i _ (List.getElem?_eq_getElem hi)).name]
  ·rw [List.getElem?_eq_none (by omega),List.getElem?_eq_none (by simp;omega)];rfl
 rw [e]
 have h5:=List.all_eq_true.1 (List.all_eq_true.1 TV b (by cases b <;> simp)) ms.length
 refine h5 ?_
 have:ms.length = 1 ∨ ms.length = 2 ∨ ms.length = 3:=by omega
 rcases this with h | h | h <;> rw [h] <;> simp
theorem J9.colE {s:C4} (h:J9 s) {i:Nat} {c:C5} (hc:s.cols[i]? = some c):colE s i c = 0:=by
 have hi:=R6 hc
 have hn:=List.all_eq_true.1 h.names i (by simpa using hi)
 simp only [Bool.and_eq_true,Bool.not_eq_true'] at hn
 have hg:(s.cols.map (·.name)).getD i [] = c.name:=by
  rw [List.getD_eq_getElem?_getD,List.getElem?_map,hc];rfl
 rw [hg] at hn
 have hd:Cd s i c = false:=by
  unfold Cd
  rw [← hn.2, ← List.map_take,List.any_map]
  rfl
 have hl:s.lists.length = 2:=by obtain ⟨l1,l2,_,_,h⟩:=h.ls;rw [h];rfl
 have hk:kindE s i c = 0 ∧ BK c = true:=by
  rcases h.col hc with ⟨rfl,rfl⟩ | ⟨h0,rfl | rfl⟩ | ⟨h0,nm,hm⟩
  ·exact ⟨by unfold kindE;simp [Ll],by decide⟩
  ·exact ⟨by unfold kindE;rw [hl];simp [Ek],by decide⟩
  ·exact ⟨by unfold kindE;rw [hl];simp [Lm],by decide⟩
  ·exact ⟨hm.kindE s i,hm.used⟩
 unfold Go.Proofs.YtiphlhoclaogjabGreatDoor.colE
 rw [hn.1,hd,hk.1,hk.2]
 rfl
theorem J9.lens {s:C4} (h:J9 s):s.lists.length = 2 ∧ 3 ≤ s.cols.length ∧ s.cols.length ≤ 6:=by
 obtain ⟨l1,l2,_,_,h1⟩:=h.ls
 obtain ⟨b,ms,h2,h3,h4,_⟩:=h.cs
 refine ⟨by rw [h1];rfl,?_⟩
 rw [h2,List.length_append]
 cases b <;> simp [Q4] <;> omega
theorem J9.ok {s:C4} (h:J9 s):H6 s = 0:=by
 have hl:=h.lens
 obtain ⟨l1,l2,m1,m2,e⟩:=h.ls
 unfold H6
 rw [if_neg (by omega)]
 have h1:M2 (U2 s.lists) 0 s.lists = 0:=by
  refine Di fun i x hx=>?_
  rw [e] at hx ⊢
  rw [Nat.zero_add]
  match i,hx with
  | 0,hx=>cases hx;unfold U2;rw [if_pos (Aq m1).one];rfl
  | 1,hx=>cases hx;unfold U2;rw [if_pos (Aq m2).two];rfl
  | n + 2,hx=>simp at hx
 have h2:s.cols.head?.map (·.kind) = some 1:=by
  obtain ⟨b,ms,h2,_⟩:=h.cs
  rw [h2];cases b <;> rfl
 rw [if_pos h1,if_pos h2]
 exact Di fun i x hx=>by rw [Nat.zero_add];exact h.colE hx
def CH:List AV → List AV → Prop
 | [],[]=>True
 | x :: r,y :: s=>NL x y ∧ CH r s
 | _,_=>False
def d7:List (List AV) → List (List AV) → Prop
 | [],[]=>True
 | x :: r,y :: s=>CH x y ∧ d7 r s
 | _,_=>False
theorem CH.get:∀ {l m:List AV},CH l m → l.length = m.length ∧ ∀ (j:Nat) x y,l[j]? = some x → m[j]? = some y → NL x y
 | [],[],_=>⟨rfl,fun j x y h=>by simp at h⟩
 | a :: r,b :: s,h=>by
   obtain ⟨h1,h2⟩:=CH.get h.2
   refine ⟨by simp [h1],fun j x y hx hy=>?_⟩
   cases j with
   | zero=>simp at hx hy;subst hx hy;exact h.1
   | succ j=>exact h2 j x y (by simpa using hx) (by simpa using hy)
 | [],_ :: _,h=>h.elim
 | _ :: _,[],h=>h.elim
theorem d7.get:∀ {l m:List (List AV)},d7 l m → l.length = m.length ∧ ∀ (i:Nat) e e',l[i]? = some e → m[i]? = some e' → CH e e'
 | [],[],_=>⟨rfl,fun j x y h=>by simp at h⟩
 | a :: r,b :: s,h=>by
   obtain ⟨h1,h2⟩:=d7.get h.2
   refine ⟨by simp [h1],fun j x y hx hy=>?_⟩
   cases j with
   | zero=>simp at hx hy;subst hx hy;exact h.1
   | succ j=>exact h2 j x y (by simpa using hx) (by simpa using hy)
 | [],_ :: _,h=>h.elim
 | _ :: _,[],h=>h.elim
theorem CH.refl:∀ (l:List AV),CH l l
 | []=>trivial
 | x :: r=>⟨.refl x,CH.refl r⟩
theorem d7.refl:∀ (l:List (List AV)),d7 l l
 | []=>trivial
 | x :: r=>⟨CH.refl x,d7.refl r⟩
theorem Lq {l m:List AV} (h:CH l m):NL (.agg l) (.agg m):=.agg l m h.get.1 h.get.2
theorem ZM {sz:Nat} {l m:List (List AV)} (h:d7 l m):NL (.sl sz l) (.sl sz m) :=
 .sl sz l m h.get.1 (fun i e e' he he'=>(h.get.2 i e e' he he').get.1) (fun i e e' he he'=>(h.get.2 i e e' he he').get.2)
theorem TW {P:Program} {f:Nat} {l l':List AV} {r:AV} (h:B4 P f l r) (hn:CH l' l):B4 P f l' r:=by
 obtain ⟨h1,h2⟩:=hn.get
 unfold B4 at h ⊢
 refine ⟨h.1,fun X w vs hX htb hl hv=>h.2 X w vs hX htb (by omega) fun j a v ha hv2=>?_⟩
 obtain ⟨x,hx⟩:=L8 h1 ha
 exact (h2 j x a hx ha).im (hv j x v hx hv2)
theorem Hl {E:Env} {n:Nat} {σ:St} (i:Nat) {e sz v:Nat} {l:List (List AV)} (l':List (List AV)) (hb:B3 σ.hp i = some (.row e sz v l)) (hn:d7 l l') (hlt:Nat.blt e G0 = true:=by rfl):St.le E n σ (σ.set i (.row e sz v l')):=by
 unfold St.le
 rintro a w ⟨θ,h⟩
 obtain ⟨hlen,hel⟩:=hn.get
 obtain ⟨_,xs,ho,hsz,him,_⟩:=h.owns i _ hb
 have hsl:∃ x m c,θ i = .slice x m c:=by
  rcases ho.2 with ⟨h1,_⟩ | ⟨g,cap,cur,h1,_⟩
  ·exact ⟨_,_,_,h1⟩
  ·exact ⟨_,_,_,h1⟩
 have ht:=h.turn (v':=θ i) (b':=.row e sz v l') (w':=w) hb rfl rfl rfl (Nat.le_refl _) (fun _ _ _=>rfl) (fun k hk=>.inl hk) ⟨hsl,e,v,l,rfl, .inr ⟨rfl,hlen,rfl⟩⟩ fun le=>?_
 ·exact ⟨_,ht⟩
 ·refine ⟨xs,?_,fun e' he'=>?_,fun k el' hk j x hx=>?_, .lt (Nat.blt_eq ▸ hlt)⟩
  ·simp only [cx,D4]
   rw [← hlen]
   exact ho
  ·obtain ⟨k,hk,rfl⟩:=List.getElem_of_mem he'
   obtain ⟨x,hx⟩:=L8 hlen (List.getElem?_eq_getElem hk)
   rw [← (hel k x _ hx (List.getElem?_eq_getElem hk)).get.1]
   exact hsz x (List.mem_of_getElem? hx)
  ·obtain ⟨el,hk0⟩:=L8 hlen hk
   obtain ⟨q1,q2⟩:=(hel k el el' hk0 hk).get
   obtain ⟨x0,hx0⟩:=L8 q1 hx
   obtain ⟨y,hy,hi⟩:=him k el hk0 j x0 hx0
   exact ⟨y,hy,(q2 j x0 x hx0 hx).im (hi.mono le.heap le.U)⟩
abbrev GY:Nat:=49
abbrev K3:Nat:=77
abbrev sB (l:List UInt8) (a:Nat) (s:C4):Hp:=[(0,some (.box [.sl 1 (l.map T7), .i a])),(1,some (.row K3 2 0 (s.lists.map D3))),(2,some (.row GY 7 0 (s.cols.map C0)))]
set_option maxHeartbeats 4000000 in
theorem TX (l:List UInt8) (a:Nat) (hl:l.length ≤ 400):B9 Tryz.prog 19 1 (s9 l a) [.ref 0 0] 3 (sB l (l8 l a).2 (l8 l a).1) (.agg [.row 1 0 2, .row 2 0 (l8 l a).1.cols.length]):=by
 have hc1:=Jf l a F6 hl
 have hc2:=Jf l (I2 l a).2 Ay hl
 have e:l8 l a = (⟨[(F6,(I2 l a).1),(Ay,(I2 l (I2 l a).2).1)],(j6 l (Q4 (decide (((C9 l (I2 l (I2 l a).2).2 2).1:Int) = 1)),(C9 l (C9 l (I2 l (I2 l a).2).2 2).2 3).2) (1 + (C9 l (C9 l (I2 l (I2 l a).2).2 2).2 3).1)).1⟩,(j6 l (Q4 (decide (((C9 l (I2 l (I2 l a).2).2 2).1:Int) = 1)),(C9 l (C9 l (I2 l (I2 l a).2).2 2).2 3).2) (1 + (C9 l (C9 l (I2 l (I2 l a).2).2 2).2 3).1)).2):=rfl
 rw [e]
 clear e
 generalize hl1:I2 l a = l1 at *
 generalize hl2:I2 l l1.2 = l2 at *
 obtain ⟨c1,a1⟩:=l1
 obtain ⟨c2,a2⟩:=l2
 dsimp only at hl2 hc1 hc2 ⊢
 have hc3:=Bj l a2 2 hl (by omega)
 generalize hb:C9 l a2 2 = b at *
 obtain ⟨b1,b2⟩:=b
 dsimp only at hc3 ⊢
 have hc4:=k9 l b2 1 3 hl (by omega) (by omega) (by omega)
 have h3:=N7 l b2 (n:=3) (by omega)
 rw [show (3:Int) - 1 + 1 = 3 from rfl] at hc4
 generalize hm:C9 l b2 3 = m at *
 obtain ⟨m1,m2⟩:=m
 dsimp only at hc4 h3 ⊢
 refine J1 Tryz.func19 41 fun E h0=>?_
 repeat' ((first | refine ⟨P5 [0] [0] hc1 rfl rfl rfl rfl rfl ⟨rfl,trivial⟩ rfl rfl rfl rfl rfl ?_⟩ | refine ⟨P5 [0] [0] hc2 rfl rfl rfl rfl rfl ⟨rfl,trivial⟩ rfl rfl rfl rfl rfl ?_⟩ | refine Z0 (T:=24) rfl ?_ | (refine Vv 3 [0,2,6,8] ?_;(try (conv=>whnf));refine Ib (ET 5) ?_;refine LT [0,2,6,8] ?_;(try (conv=>whnf));refine Z0 (T:=23) rfl ?_) | refine ⟨P5 [0] [0] hc3 rfl rfl rfl rfl rfl ⟨rfl,trivial⟩ rfl rfl rfl rfl rfl ?_⟩ | refine ⟨P5 [0] [0] hc4 rfl rfl rfl rfl rfl ⟨rfl,trivial⟩ rfl rfl rfl rfl rfl ?_⟩ |refine A4 ?_|refine S1 ?_|refine Z1 ?_|refine Z2 ?_|(refine And.intro ?_ ?_<;>intro h<;>try first|(exfalso;omega)|exact absurd rfl h)|refine Z3 ?_|refine Z4 ?_|intro el hel hbB|intro el hel|intro ex|refine Z5 ?_|(refine A9 ?_ ?_;exact ⟨by kernel_rfl,by decide⟩)|refine A8 ?_ ?_|exact A7|refine A6 ?_ ?_|exact A5|(refine A0 ?_ ?_ ?_;kernel_rfl;kernel_rfl)) <;> (try (conv=>whnf)))
 all_goals
  refine TG [0,2,3,4] ?_
  (try (conv=>whnf))
 ·have hb1:(b1:Int) = 1:=by omega
  rw [decide_eq_true hb1]
  refine C2 (ι:=Nat × List C5 × Nat) (fun x=>⟨[(0, .ref 0 0),(2, .ref 1 0),(3, .ref 8 0),(4, .i x.1)],9,[(0,some (.box [.sl 1 (l.map T7), .i x.2.2])),(1,some (.box [.v (.slice none 0 0), .v (.slice none 0 0)])),(6,some (.row K3 2 0 [D3 (F6,c1),D3 (Ay,c2)])),(7,some (.row GY 7 0 (x.2.1.map C0))),(8,some (.box [.row 6 0 2, .row 7 0 x.2.1.length]))]⟩)
   (fun x=>x.1 ≤ 3 ∧ x.2.1.length + x.1 ≤ 6 ∧ j6 l (Q4 true,m2) (1 + m1) = j6 l x.2 x.1) (fun x=>x.1) (1 + m1,Q4 true,m2) ⟨by dsimp only;omega,by simp only [Q4,_root_.cond_true,_root_.cond_false,List.length_cons,List.length_nil];omega,rfl⟩
   (C3 (Hl 7 ((Q4 true).map C0) rfl ⟨⟨.refl _, .refl _, .refl _, .refl _, .refl _, .nil 1, .refl _,trivial⟩,⟨.refl _, .refl _, .refl _, .refl _, .refl _, .nil 1, .refl _,trivial⟩,⟨.refl _, .refl _, .refl _, .refl _, .refl _, .nil 1, .refl _,trivial⟩,trivial⟩) (B0 h0 rfl ⟨rfl,rfl,rfl,rfl,trivial⟩ ⟨rfl,rfl,⟨_,rfl⟩,⟨_,rfl⟩,rfl,trivial⟩ rfl rfl rfl)) (fun x hI=>?_)
  obtain ⟨k,cs,a3⟩:=x
  obtain ⟨hk,hlen,hI⟩:=hI
  dsimp only at hk hlen hI ⊢
  have hmea:=Lk l a3 (Y4 cs.length) hl
  have hi1:=CF cs.length (by omega)
  have hil:=w7 cs.length
  repeat' ((first | refine G6 ⟨[(0, .ref 0 0),(2, .ref 1 0),(3, .ref 8 0),(4, .i k)],9,[(0,some (.box [.sl 1 (l.map T7), .i (W7 l a3 (Y4 cs.length)).2])),(1,some (.box [.v (.slice none 0 0), .v (.slice none 0 0)])),(6,some (.row K3 2 0 [D3 (F6,c1),D3 (Ay,c2)])),(7,some (.row GY 7 0 ((cs ++ [(W7 l a3 (Y4 cs.length)).1]).map C0))),(8,some (.box [.row 6 0 2, .row 7 0 (cs ++ [(W7 l a3 (Y4 cs.length)).1]).length]))]⟩ ?_ ?_ | refine B2 hi1 ?_ | (refine G9 ?_ ?_;(show 1 + (o6 cs.length).length ≤ _;omega)) | refine ⟨P5 [0] [0] hmea rfl rfl rfl rfl rfl ⟨rfl,trivial⟩ rfl rfl rfl rfl rfl ?_⟩ |refine A4 ?_|refine S1 ?_|refine Z1 ?_|refine Z2 ?_|(refine And.intro ?_ ?_<;>intro h<;>try first|(exfalso;omega)|exact absurd rfl h)|refine Z3 ?_|refine Z4 ?_|intro el hel hbB|intro el hel|intro ex|refine Z5 ?_|(refine A9 ?_ ?_;exact ⟨by kernel_rfl,by decide⟩)|refine A8 ?_ ?_|exact A7|refine A6 ?_ ?_|exact A5|(refine A0 ?_ ?_ ?_;kernel_rfl;kernel_rfl)) <;> (try (conv=>whnf)))
  all_goals first
   | exact B0 h0 rfl ⟨rfl,rfl,rfl,rfl,trivial⟩ ⟨rfl,rfl,⟨_,rfl⟩,⟨_,congrArg (C6.row GY 7 _) (by rw [List.map_append];rfl)⟩,congrArg (fun z=>C6.box [.row 6 0 2, .row 7 0 z]) (by rw [List.length_append];rfl),trivial⟩ rfl rfl rfl
   | (obtain ⟨k',rfl⟩:∃ k',k = k' + 1:=⟨k - 1,by omega⟩
      exact ⟨(k',cs ++ [(W7 l a3 (Y4 cs.length)).1],(W7 l a3 (Y4 cs.length)).2),⟨by dsimp only;omega,by dsimp only;rw [List.length_append,List.length_singleton];omega,hI⟩,by dsimp only;omega,B0 h0 rfl ⟨rfl,rfl,rfl,congrArg (fun z=>some (AV.i z)) (by dsimp only;omega),trivial⟩ ⟨rfl,rfl,⟨_,rfl⟩,⟨_,rfl⟩,rfl,trivial⟩ rfl rfl rfl⟩)
   | (obtain rfl:k = 0:=by omega
      rw [hI]
      exact H8 (rvs:=[.cell 2 26]) (vs:=[_]) ⟨1,_,_,rfl,rfl,inferInstance,rfl,rfl,trivial⟩ rfl rfl (C3 (Bf 1 6 h0 rfl rfl) (C3 (Bf 2 7 h0 rfl rfl) (B0 h0 rfl ⟨rfl,trivial⟩ ⟨rfl,⟨_,rfl⟩,⟨_,rfl⟩,trivial⟩ rfl rfl rfl))) rfl)
 ·have hb1:¬ (b1:Int) = 1:=by omega
  rw [decide_eq_false hb1]
  refine C2 (ι:=Nat × List C5 × Nat) (fun x=>⟨[(0, .ref 0 0),(2, .ref 1 0),(3, .ref 8 0),(4, .i x.1)],9,[(0,some (.box [.sl 1 (l.map T7), .i x.2.2])),(1,some (.box [.v (.slice none 0 0), .v (.slice none 0 0)])),(6,some (.row K3 2 0 [D3 (F6,c1),D3 (Ay,c2)])),(7,some (.row GY 7 0 (x.2.1.map C0))),(8,some (.box [.row 6 0 2, .row 7 0 x.2.1.length]))]⟩)
   (fun x=>x.1 ≤ 3 ∧ x.2.1.length + x.1 ≤ 6 ∧ j6 l (Q4 false,m2) (1 + m1) = j6 l x.2 x.1) (fun x=>x.1) (1 + m1,Q4 false,m2) ⟨by dsimp only;omega,by simp only [Q4,_root_.cond_true,_root_.cond_false,List.length_cons,List.length_nil];omega,rfl⟩
   (C3 (Hl 7 ((Q4 false).map C0) rfl ⟨⟨.refl _, .refl _, .refl _, .refl _, .refl _, .nil 1, .refl _,trivial⟩,⟨.refl _, .refl _, .refl _, .refl _, .refl _, .nil 1, .refl _,trivial⟩,trivial⟩) (B0 h0 rfl ⟨rfl,rfl,rfl,rfl,trivial⟩ ⟨rfl,rfl,⟨_,rfl⟩,⟨_,rfl⟩,rfl,trivial⟩ rfl rfl rfl)) (fun x hI=>?_)
  obtain ⟨k,cs,a3⟩:=x
  obtain ⟨hk,hlen,hI⟩:=hI
  dsimp only at hk hlen hI ⊢
  have hmea:=Lk l a3 (Y4 cs.length) hl
  have hi1:=CF cs.length (by omega)
  have hil:=w7 cs.length
  repeat' ((first | refine G6 ⟨[(0, .ref 0 0),(2, .ref 1 0),(3, .ref 8 0),(4, .i k)],9,[(0,some (.box [.sl 1 (l.map T7), .i (W7 l a3 (Y4 cs.length)).2])),(1,some (.box [.v (.slice none 0 0), .v (.slice none 0 0)])),(6,some (.row K3 2 0 [D3 (F6,c1),D3 (Ay,c2)])),(7,some (.row GY 7 0 ((cs ++ [(W7 l a3 (Y4 cs.length)).1]).map C0))),(8,some (.box [.row 6 0 2, .row 7 0 (cs ++ [(W7 l a3 (Y4 cs.length)).1]).length]))]⟩ ?_ ?_ | refine B2 hi1 ?_ | (refine G9 ?_ ?_;(show 1 + (o6 cs.length).length ≤ _;omega)) | refine ⟨P5 [0] [0] hmea rfl rfl rfl rfl rfl ⟨rfl,trivial⟩ rfl rfl rfl rfl rfl ?_⟩ |refine A4 ?_|refine S1 ?_|refine Z1 ?_|refine Z2 ?_|(refine And.intro ?_ ?_<;>intro h<;>try first|(exfalso;omega)|exact absurd rfl h)|refine Z3 ?_|refine Z4 ?_|intro el hel hbB|intro el hel|intro ex|refine Z5 ?_|(refine A9 ?_ ?_;exact ⟨by kernel_rfl,by decide⟩)|refine A8 ?_ ?_|exact A7|refine A6 ?_ ?_|exact A5|(refine A0 ?_ ?_ ?_;kernel_rfl;kernel_rfl)) <;> (try (conv=>whnf)))
  all_goals first
   | exact B0 h0 rfl ⟨rfl,rfl,rfl,rfl,trivial⟩ ⟨rfl,rfl,⟨_,rfl⟩,⟨_,congrArg (C6.row GY 7 _) (by rw [List.map_append];rfl)⟩,congrArg (fun z=>C6.box [.row 6 0 2, .row 7 0 z]) (by rw [List.length_append];rfl),trivial⟩ rfl rfl rfl
   | (obtain ⟨k',rfl⟩:∃ k',k = k' + 1:=⟨k - 1,by omega⟩
      exact ⟨(k',cs ++ [(W7 l a3 (Y4 cs.length)).1],(W7 l a3 (Y4 cs.length)).2),⟨by dsimp only;omega,by dsimp only;rw [List.length_append,List.length_singleton];omega,hI⟩,by dsimp only;omega,B0 h0 rfl ⟨rfl,rfl,rfl,congrArg (fun z=>some (AV.i z)) (by dsimp only;omega),trivial⟩ ⟨rfl,rfl,⟨_,rfl⟩,⟨_,rfl⟩,rfl,trivial⟩ rfl rfl rfl⟩)
   | (obtain rfl:k = 0:=by omega
      rw [hI]
      exact H8 (rvs:=[.cell 2 26]) (vs:=[_]) ⟨1,_,_,rfl,rfl,inferInstance,rfl,rfl,trivial⟩ rfl rfl (C3 (Bf 1 6 h0 rfl rfl) (C3 (Bf 2 7 h0 rfl rfl) (B0 h0 rfl ⟨rfl,trivial⟩ ⟨rfl,⟨_,rfl⟩,⟨_,rfl⟩,trivial⟩ rfl rfl rfl))) rfl)
end Go.Proofs.YtiphlhoclaogjabGreatDoor
