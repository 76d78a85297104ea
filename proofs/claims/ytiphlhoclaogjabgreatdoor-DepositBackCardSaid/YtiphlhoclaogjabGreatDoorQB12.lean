/- Draws: measures. Chapter 2: what every drawn schema is like. Nothing laid is an empty row: in arguments of calls, and in rows of one's own. Draws: schemas. Chapter 2: the example of the chapter. -/
import Derived.Test.YtiphlhoclaogjabGreatDoorQB5
import Derived.Test.YtiphlhoclaogjabGreatDoorQB7
import Derived.Test.YtiphlhoclaogjabGreatDoorQE3
import Derived.Test.YtiphlhoclaogjabGreatDoorQAvTy
import Derived.Test.YtiphlhoclaogjabGreatDoorQB8
set_option linter.unusedVariables false
set_option linter.unnecessarySimpa false
set_option linter.unusedSimpArgs false
namespace Go.Proofs.YtiphlhoclaogjabGreatDoor
open Go Go.Av
attribute [local irreducible] D1 B5 D5 D3 DQ D7 E0 St.le B3 B6
set_option maxRecDepth 100000
def BM:List (List Int):=[[1],[1,5],[1,5,20],[1,2,4,12]]
def W8 (l:List UInt8) (a:Nat) (nm:List UInt8):C1 × Nat :=
 let low:=-4 + ((C4 l a 7).1:Int)
 let a1:=(C4 l a 7).2
 let a2:=(C4 l a1 4).2
 let a3:=(C4 l a2 3).2
 (⟨nm,3,0,low,low + ((C4 l a3 45).1:Int),BM.getD (C4 l a1 4).1 [],decide (((C4 l a2 3).1:Int) = 2)⟩,(C4 l a3 45).2)
theorem YC {n:Nat} {F:List AV → Prop} (h:(n:Int) < 4) (k:F [.sl 1 ((BM.getD n []).map wA)]):M4 (BM.map fun ws=>[AV.sl 1 (ws.map wA)]) (n:Int) F:=by
 refine f8 (by show n < 4;omega) fun x hx=>?_
 rw [List.getD_eq_getElem?_getD,hx] at k
 exact k
set_option maxHeartbeats 4000000 in
theorem Lv (l:List UInt8) (a:Nat) (nm:List UInt8) (hl:l.length ≤ 400):B6 Tryz.prog 52 1 (t8 l a) [.ref 0 0, .str nm] 1 (t8 l (W8 l a nm).2) (Y3 (W8 l a nm).1):=by
 have h7:=M7 l a (n:=7) (by omega)
 have h4:=M7 l (C4 l a 7).2 (n:=4) (by omega)
 refine M6 Tryz.func52 28 fun E h0=>?_
 repeat' ((first|refine A1 ?_|refine S1 ?_|refine Z1 ?_|refine Z2 ?_|(refine And.intro ?_ ?_<;>intro h<;>try first|(exfalso;omega)|exact absurd rfl h)|refine Z3 ?_|refine Z4 ?_|intro el hel hbB|intro el hel|intro ex|refine Z5 ?_|(refine A6 ?_ ?_;exact ⟨by kernel_rfl,by decide⟩)|refine A5 ?_ ?_|exact A4|refine A3 ?_ ?_|exact A2|(refine A0 ?_ ?_ ?_;kernel_rfl;kernel_rfl)) <;> (try (conv=>whnf)))
 refine I3 ⟨[(0, .ref 0 0),(4, .ref 1 0),(5, .ref 2 0)],3,[(0,some (.box [.sl 1 (l.map R8), .i (C4 l (C4 l (C4 l a 7).2 4).2 3).2])),(1,some (.box [.str [], .i 0, .i 0, .i 0, .i 0, .v (.slice none 0 0), .b false])),(2,some (.box [.str nm, .i 3, .i 0, .i (-4 + ((C4 l a 7).1:Int)), .i 0, .sl 1 ((BM.getD (C4 l (C4 l a 7).2 4).1 []).map wA), .b (decide (((C4 l (C4 l (C4 l a 7).2 4).2 3).1:Int) = 2))]))]⟩ ?_ ?_
 ·repeat' ((first | refine ⟨O7 [0] [0] (l6 _ _ _ _ hl (by omega) (by omega) (by omega)) rfl rfl rfl rfl rfl ⟨rfl,trivial⟩ rfl rfl rfl rfl rfl ?_⟩ | refine ⟨O7 [0] [0] (Bo _ _ _ hl (by omega)) rfl rfl rfl rfl rfl ⟨rfl,trivial⟩ rfl rfl rfl rfl rfl ?_⟩ | refine ⟨O7 [0] [0] (u3 _ _ _ hl) rfl rfl rfl rfl rfl ⟨rfl,trivial⟩ rfl rfl rfl rfl rfl ?_⟩ | refine YC h4 ?_ |refine A1 ?_|refine S1 ?_|refine Z1 ?_|refine Z2 ?_|(refine And.intro ?_ ?_<;>intro h<;>try first|(exfalso;omega)|exact absurd rfl h)|refine Z3 ?_|refine Z4 ?_|intro el hel hbB|intro el hel|intro ex|refine Z5 ?_|(refine A6 ?_ ?_;exact ⟨by kernel_rfl,by decide⟩)|refine A5 ?_ ?_|exact A4|refine A3 ?_ ?_|exact A2|(refine A0 ?_ ?_ ?_;kernel_rfl;kernel_rfl)) <;> (try (conv=>whnf)))
  all_goals first
   | exact A8 h0 rfl ⟨rfl,rfl,rfl,trivial⟩ ⟨rfl,rfl,rfl,trivial⟩ rfl rfl rfl
 repeat' ((first|refine A1 ?_|refine S1 ?_|refine Z1 ?_|refine Z2 ?_|(refine And.intro ?_ ?_<;>intro h<;>try first|(exfalso;omega)|exact absurd rfl h)|refine Z3 ?_|refine Z4 ?_|intro el hel hbB|intro el hel|intro ex|refine Z5 ?_|(refine A6 ?_ ?_;exact ⟨by kernel_rfl,by decide⟩)|refine A5 ?_ ?_|exact A4|refine A3 ?_ ?_|exact A2|(refine A0 ?_ ?_ ?_;kernel_rfl;kernel_rfl)) <;> (try (conv=>whnf)))
 refine I3 ⟨[(0, .ref 0 0),(4, .ref 1 0),(5, .ref 2 0)],3,[(0,some (.box [.sl 1 (l.map R8), .i (C4 l (C4 l (C4 l (C4 l a 7).2 4).2 3).2 45).2])),(1,some (.box [.str [], .i 0, .i 0, .i 0, .i 0, .v (.slice none 0 0), .b false])),(2,some (.box [.str nm, .i 3, .i 0, .i (-4 + ((C4 l a 7).1:Int)), .i (-4 + ((C4 l a 7).1:Int) + ((C4 l (C4 l (C4 l (C4 l a 7).2 4).2 3).2 45).1:Int)), .sl 1 ((BM.getD (C4 l (C4 l a 7).2 4).1 []).map wA), .b (decide (((C4 l (C4 l (C4 l a 7).2 4).2 3).1:Int) = 2))]))]⟩ ?_ ?_
 ·have h45:=M7 l (C4 l (C4 l (C4 l a 7).2 4).2 3).2 (n:=45) (by omega)
  repeat' ((first | refine ⟨O7 [0] [0] (u3 _ _ _ hl) rfl rfl rfl rfl rfl ⟨rfl,trivial⟩ rfl rfl rfl rfl rfl ?_⟩ |refine A1 ?_|refine S1 ?_|refine Z1 ?_|refine Z2 ?_|(refine And.intro ?_ ?_<;>intro h<;>try first|(exfalso;omega)|exact absurd rfl h)|refine Z3 ?_|refine Z4 ?_|intro el hel hbB|intro el hel|intro ex|refine Z5 ?_|(refine A6 ?_ ?_;exact ⟨by kernel_rfl,by decide⟩)|refine A5 ?_ ?_|exact A4|refine A3 ?_ ?_|exact A2|(refine A0 ?_ ?_ ?_;kernel_rfl;kernel_rfl)) <;> (try (conv=>whnf)))
  all_goals first
   | exact A8 h0 rfl ⟨rfl,rfl,rfl,trivial⟩ ⟨rfl,rfl,rfl,trivial⟩ rfl rfl rfl
 repeat' ((first|refine A1 ?_|refine S1 ?_|refine Z1 ?_|refine Z2 ?_|(refine And.intro ?_ ?_<;>intro h<;>try first|(exfalso;omega)|exact absurd rfl h)|refine Z3 ?_|refine Z4 ?_|intro el hel hbB|intro el hel|intro ex|refine Z5 ?_|(refine A6 ?_ ?_;exact ⟨by kernel_rfl,by decide⟩)|refine A5 ?_ ?_|exact A4|refine A3 ?_ ?_|exact A2|(refine A0 ?_ ?_ ?_;kernel_rfl;kernel_rfl)) <;> (try (conv=>whnf)))
 exact V1 (rvs:=[.cell 4 49]) (vs:=[_]) ⟨1,_,_,rfl,rfl,inferInstance,rfl,rfl,trivial⟩ rfl rfl (A8 h0 rfl ⟨rfl,trivial⟩ ⟨rfl,trivial⟩ rfl rfl rfl) rfl
def Lw:C1:=⟨[119,104,111],1,0,0,0,[],false⟩
def Ed:C1:=⟨[115,101,120],2,0,0,0,[],false⟩
def Lx:C1:=⟨[106,111,98],2,1,0,0,[],false⟩
def Y4 (n:Nat):List UInt8:=[109] ++ o7 n
def j7 (l:List UInt8):List C1 × Nat → Nat → List C1 × Nat
 | s,0=>s
 | s,k + 1=>j7 l (s.1 ++ [(W8 l s.2 (Y4 s.1.length)).1],(W8 l s.2 (Y4 s.1.length)).2) k
abbrev Ax:List UInt8:=[116,119,111]
abbrev E9:List UInt8:=[111,110,101]
def P8 (b:Bool):List C1:=cond b [Lw,Ed,Lx] [Lw,Ed]
def m8 (l:List UInt8) (a:Nat):B8 × Nat :=
 let l1:=H7 l a
 let l2:=H7 l l1.2
 let b:=C4 l l2.2 2
 let m:=C4 l b.2 3
 let r:=j7 l (P8 (decide ((b.1:Int) = 1)),m.2) (1 + m.1)
 (⟨[(E9,l1.1),(Ax,l2.1)],r.1⟩,r.2)
structure T3 (c:C1) (nm:List UInt8):Prop where
 name:c.name = nm
 kind:c.kind = 3
 lst:c.lst = 0
 low:-4 ≤ c.low ∧ c.low ≤ 2
 high:c.low ≤ c.high ∧ c.high ≤ c.low + 44
 wid:c.widths ∈ BM
theorem Wh (l:List UInt8) (a:Nat) (nm:List UInt8):T3 (W8 l a nm).1 nm:=by
 have h7:=M7 l a (n:=7) (by omega)
 have h4:=M7 l (C4 l a 7).2 (n:=4) (by omega)
 have h45:=M7 l (C4 l (C4 l (C4 l a 7).2 4).2 3).2 (n:=45) (by omega)
 refine ⟨rfl,rfl,rfl,?_,?_,?_⟩
 ·simp only [W8];omega
 ·simp only [W8];omega
 ·simp only [W8]
  have hlt:(C4 l (C4 l a 7).2 4).1 < BM.length:=by show _ < 4;omega
  rw [List.getD_eq_getElem?_getD,List.getElem?_eq_getElem hlt]
  exact List.getElem_mem hlt
theorem Fv (l:List UInt8):∀ (k:Nat) (s:List C1 × Nat), ∃ ms,(j7 l s k).1 = s.1 ++ ms ∧ ms.length = k ∧ ∀ (i:Nat) c,ms[i]? = some c → T3 c (Y4 (s.1.length + i))
 | 0,s=>⟨[],by simp [j7],rfl,fun i c h=>by simp at h⟩
 | k + 1,s=>by
   obtain ⟨ms,h1,h2,h3⟩:=Fv l k (s.1 ++ [(W8 l s.2 (Y4 s.1.length)).1],(W8 l s.2 (Y4 s.1.length)).2)
   refine ⟨(W8 l s.2 (Y4 s.1.length)).1 :: ms,?_,by simp [h2],fun i c hc=>?_⟩
   ·rw [j7,h1];simp
   ·cases i with
    | zero=>simp at hc;subst hc;exact Wh _ _ _
    | succ i =>
      have:=h3 i c (by simpa using hc)
      simp only [List.length_append,List.length_singleton] at this
      rwa [show s.1.length + (i + 1) = s.1.length + 1 + i by omega]
structure J1 (s:B8):Prop where
 ls:∃ l1 l2,l1 ∈ Ft ∧ l2 ∈ Ft ∧ s.lists = [(E9,l1),(Ax,l2)]
 cs:∃ b ms,s.cols = P8 b ++ ms ∧ 1 ≤ ms.length ∧ ms.length ≤ 3 ∧ ∀ (i:Nat) c,ms[i]? = some c → T3 c (Y4 ((P8 b).length + i))
theorem Hn (l:List UInt8) (a:Nat):J1 (m8 l a).1:=by
 refine ⟨⟨_,_,Jm l a,Jm l (H7 l a).2,rfl⟩,?_⟩
 have h3:=M7 l (C4 l (H7 l (H7 l a).2).2 2).2 (n:=3) (by omega)
 obtain ⟨ms,h1,h2,h4⟩:=Fv l (1 + (C4 l (C4 l (H7 l (H7 l a).2).2 2).2 3).1) (P8 (decide (((C4 l (H7 l (H7 l a).2).2 2).1:Int) = 1)),(C4 l (C4 l (H7 l (H7 l a).2).2 2).2 3).2)
 exact ⟨_,ms,h1,by omega,by omega,h4⟩
def Ly (b:Bool) (n:Nat):List (List UInt8):=(P8 b).map (·.name) ++ (List.range n).map fun i=>Y4 ((P8 b).length + i)
def Vf (l:List (List UInt8)):Bool:=(List.range l.length).all fun i=>D0 (l.getD i []) && !((l.take i).any fun x=>decide (x = l.getD i []))
theorem Tw:([true,false].all fun b=>[1,2,3].all fun n=>Vf (Ly b n)) = true:=by decide +kernel
def RU (cs:List Code):Bool:=decide (chk E9 cs = 0) && decide (chk Ax cs = 0) && decide (1 ≤ E8 E9 cs ∧ E8 E9 cs ≤ 5) && decide (cs.length ≤ 10) && decide (1 ≤ (N4 E9 cs (E8 E9 cs - 1)).length ∧ (N4 E9 cs (E8 E9 cs - 1)).length ≤ 10) && ((N4 E9 cs (E8 E9 cs - 1)).all fun k=>decide (k < cs.length))
theorem Wi:Ft.all RU = true:=by decide +kernel
structure ZS (cs:List Code):Prop where
 one:chk E9 cs = 0
 two:chk Ax cs = 0
 lv:1 ≤ E8 E9 cs ∧ E8 E9 cs ≤ 5
 len:cs.length ≤ 10
 at':1 ≤ (N4 E9 cs (E8 E9 cs - 1)).length ∧ (N4 E9 cs (E8 E9 cs - 1)).length ≤ 10
 mem:∀ k ∈ N4 E9 cs (E8 E9 cs - 1),k < cs.length
theorem Aq {cs:List Code} (h:cs ∈ Ft):ZS cs:=by
 have:=List.all_eq_true.1 Wi _ h
 simp only [RU,Bool.and_eq_true,decide_eq_true_eq,List.all_eq_true] at this
 obtain ⟨⟨⟨⟨⟨h1,h2⟩,h3⟩,h4⟩,h5⟩,h6⟩:=this
 exact ⟨h1,h2,h3,h4,h5,h6⟩
theorem Lz {a b:List UInt8} (h:D0 a = D0 b) (cs:List Code):chk a cs = chk b cs:=by unfold chk;rw [h]
theorem Wj {a b:List UInt8} (h:D0 a = D0 b) (cs:List Code) (k:Int):hasB a cs k = hasB b cs k:=by unfold hasB;rw [Lz h]
theorem x8 {a b:List UInt8} (h:D0 a = D0 b) (cs:List Code):E8 a cs = E8 b cs:=by unfold E8;rw [Lz h]
theorem MA {a b:List UInt8} (h:D0 a = D0 b) (cs:List Code) (k lv:Int):o4 a cs k lv = o4 b cs k lv:=by unfold o4;rw [Wj h]
theorem Cu {a b:List UInt8} (h:D0 a = D0 b) (cs:List Code) (lv:Int):N4 a cs lv = N4 b cs lv:=by unfold N4;rw [Lz h]
theorem YD:D0 Ax = D0 E9:=by decide
theorem Di {α:Type} {f:Nat → α → Int}:∀ {l:List α} {k:Nat},(∀ (i:Nat) x,l[i]? = some x → f (k + i) x = 0) → K8 f k l = 0
 | [],k,_=>rfl
 | y :: r,k,h=>by
   have h0:=h 0 y rfl
   simp only [Nat.add_zero] at h0
   rw [K8,if_pos h0]
   refine Di fun i x hx=>?_
   have:=h (i + 1) x (by simpa using hx)
   rwa [show k + (i + 1) = k + 1 + i by omega] at this
theorem T3.meaE {c:C1} {nm:List UInt8} (h:T3 c nm):meaE c = 0:=by
 have h1:=h.low
 have h2:=h.high
 have h3:=h.wid
 unfold Go.Proofs.YtiphlhoclaogjabGreatDoor.meaE
 rw [if_neg (by omega)]
 simp only [BM,List.mem_cons,List.not_mem_nil,or_false] at h3
 rcases h3 with h3 | h3 | h3 | h3 <;> rw [h3] <;> decide
theorem T3.used {c:C1} {nm:List UInt8} (h:T3 c nm):Af c = true:=by
 unfold Af
 rw [h.kind,h.lst]
 simp
theorem T3.kindE {c:C1} {nm:List UInt8} (h:T3 c nm) (s:B8) (i:Nat):kindE s i c = 0:=by
 unfold Go.Proofs.YtiphlhoclaogjabGreatDoor.kindE
 rw [h.kind]
 simp [h.meaE]
theorem J1.col {s:B8} (h:J1 s) {i:Nat} {c:C1} (hc:s.cols[i]? = some c):(i = 0 ∧ c = Lw) ∨ (0 < i ∧ (c = Ed ∨ c = Lx)) ∨ (0 < i ∧ ∃ nm,T3 c nm):=by
 obtain ⟨b,ms,h1,_,_,h4⟩:=h.cs
 rw [h1,List.getElem?_append] at hc
 split at hc
 ·cases b <;> simp only [P8,_root_.cond_true,_root_.cond_false,List.length_cons,List.length_nil] at hc
  ·match i,hc with
   | 0,hc=>cases hc;exact .inl ⟨rfl,rfl⟩
   | 1,hc=>cases hc;exact .inr (.inl ⟨by omega, .inl rfl⟩)
   | n + 2,hc=>simp at hc
  ·match i,hc with
   | 0,hc=>cases hc;exact .inl ⟨rfl,rfl⟩
   | 1,hc=>cases hc;exact .inr (.inl ⟨by omega, .inl rfl⟩)
   | 2,hc=>cases hc;exact .inr (.inl ⟨by omega, .inr rfl⟩)
   | n + 3,hc=>simp at hc
 ·rename_i hlt
  refine .inr (.inr ⟨?_,_,h4 _ c hc⟩)
  cases b <;> simp [P8] at hlt <;> omega
theorem J1.names {s:B8} (h:J1 s):Vf (s.cols.map (·.name)) = true:=by
 obtain ⟨b,ms,h1,h2,h3,h4⟩:=h.cs
 have e:s.cols.map (·.name) = Ly b ms.length:=by
  rw [h1,List.map_append]
  unfold Ly
  congr 1
  refine List.ext_getElem? fun i=>?_
  rw [List.getElem?_map,List.getElem?_map]
  by_cases hi:i < ms.length
  ·rw [List.getElem?_eq_getElem hi,List.getElem?_range hi]
   simp only [Option.map_some]
   rw [(h4 i _ (List.getElem?_eq_getElem hi)).name]
  ·rw [List.getElem?_eq_none (by omega),List.getElem?_eq_none (by simp;omega)];rfl
 rw [e]
 have h5:=List.all_eq_true.1 (List.all_eq_true.1 Tw b (by cases b <;> simp)) ms.length
 refine h5 ?_
 have:ms.length = 1 ∨ ms.length = 2 ∨ ms.length = 3:=by omega
 rcases this with h | h | h <;> rw [h] <;> simp
theorem J1.colE {s:B8} (h:J1 s) {i:Nat} {c:C1} (hc:s.cols[i]? = some c):colE s i c = 0:=by
 have hi:=R0 hc
 have hn:=List.all_eq_true.1 h.names i (by simpa using hi)
 simp only [Bool.and_eq_true,Bool.not_eq_true'] at hn
 have hg:(s.cols.map (·.name)).getD i [] = c.name:=by
  rw [List.getD_eq_getElem?_getD,List.getElem?_map,hc];rfl
 rw [hg] at hn
 have hd:Cf s i c = false:=by
  unfold Cf
  rw [← hn.2, ← List.map_take,List.any_map]
  rfl
 have hl:s.lists.length = 2:=by obtain ⟨l1,l2,_,_,h⟩:=h.ls;rw [h];rfl
 have hk:kindE s i c = 0 ∧ Af c = true:=by
  rcases h.col hc with ⟨rfl,rfl⟩ | ⟨h0,rfl | rfl⟩ | ⟨h0,nm,hm⟩
  ·exact ⟨by unfold kindE;simp [Lw],by decide⟩
  ·exact ⟨by unfold kindE;rw [hl];simp [Ed],by decide⟩
  ·exact ⟨by unfold kindE;rw [hl];simp [Lx],by decide⟩
  ·exact ⟨hm.kindE s i,hm.used⟩
 unfold Go.Proofs.YtiphlhoclaogjabGreatDoor.colE
 rw [hn.1,hd,hk.1,hk.2]
 rfl
theorem J1.lens {s:B8} (h:J1 s):s.lists.length = 2 ∧ 3 ≤ s.cols.length ∧ s.cols.length ≤ 6:=by
 obtain ⟨l1,l2,_,_,h1⟩:=h.ls
 obtain ⟨b,ms,h2,h3,h4,_⟩:=h.cs
 refine ⟨by rw [h1];rfl,?_⟩
 rw [h2,List.length_append]
 cases b <;> simp [P8] <;> omega
theorem J1.ok {s:B8} (h:J1 s):F8 s = 0:=by
 have hl:=h.lens
 obtain ⟨l1,l2,m1,m2,e⟩:=h.ls
 unfold F8
 rw [if_neg (by omega)]
 have h1:K8 (U2 s.lists) 0 s.lists = 0:=by
  refine Di fun i x hx=>?_
  rw [e] at hx ⊢
  rw [Nat.zero_add]
  match i,hx with
  | 0,hx=>cases hx;unfold U2;rw [if_pos (Aq m1).one];rfl
  | 1,hx=>cases hx;unfold U2;rw [if_pos (Aq m2).two];rfl
  | n + 2,hx=>simp at hx
 have h2:s.cols.head?.map (·.kind) = some 1:=by
  obtain ⟨b,ms,h2,_⟩:=h.cs
  rw [h2];cases b <;> rfl
 rw [if_pos h1,if_pos h2]
 exact Di fun i x hx=>by rw [Nat.zero_add];exact h.colE hx
def Cv:List AV → List AV → Prop
 | [],[]=>True
 | x :: r,y :: s=>NL x y ∧ Cv r s
 | _,_=>False
def Is:List (List AV) → List (List AV) → Prop
 | [],[]=>True
 | x :: r,y :: s=>Cv x y ∧ Is r s
 | _,_=>False
theorem Cv.get:∀ {l m:List AV},Cv l m → l.length = m.length ∧ ∀ (j:Nat) x y,l[j]? = some x → m[j]? = some y → NL x y
 | [],[],_=>⟨rfl,fun j x y h=>by simp at h⟩
 | a :: r,b :: s,h=>by
   obtain ⟨h1,h2⟩:=Cv.get h.2
   refine ⟨by simp [h1],fun j x y hx hy=>?_⟩
   cases j with
   | zero=>simp at hx hy;subst hx hy;exact h.1
   | succ j=>exact h2 j x y (by simpa using hx) (by simpa using hy)
 | [],_ :: _,h=>h.elim
 | _ :: _,[],h=>h.elim
theorem Is.get:∀ {l m:List (List AV)},Is l m → l.length = m.length ∧ ∀ (i:Nat) e e',l[i]? = some e → m[i]? = some e' → Cv e e'
 | [],[],_=>⟨rfl,fun j x y h=>by simp at h⟩
 | a :: r,b :: s,h=>by
   obtain ⟨h1,h2⟩:=Is.get h.2
   refine ⟨by simp [h1],fun j x y hx hy=>?_⟩
   cases j with
   | zero=>simp at hx hy;subst hx hy;exact h.1
   | succ j=>exact h2 j x y (by simpa using hx) (by simpa using hy)
 | [],_ :: _,h=>h.elim
 | _ :: _,[],h=>h.elim
theorem Cv.refl:∀ (l:List AV),Cv l l
 | []=>trivial
 | x :: r=>⟨.refl x,Cv.refl r⟩
theorem RV {l m:List AV} (h:Cv l m):NL (.agg l) (.agg m):=.agg l m h.get.1 h.get.2
theorem ZT {sz:Nat} {l m:List (List AV)} (h:Is l m):NL (.sl sz l) (.sl sz m) :=
 .sl sz l m h.get.1 (fun i e e' he he'=>(h.get.2 i e e' he he').get.1) (fun i e e' he he'=>(h.get.2 i e e' he he').get.2)
theorem Tx {P:Program} {f:Nat} {l l':List AV} {r:AV} (h:B3 P f l r) (hn:Cv l' l):B3 P f l' r:=by
 obtain ⟨h1,h2⟩:=hn.get
 unfold B3 at h ⊢
 refine ⟨h.1,fun X w vs hX htb hl hv=>h.2 X w vs hX htb (by omega) fun j a v ha hv2=>?_⟩
 obtain ⟨x,hx⟩:=L7 h1 ha
 exact (h2 j x a hx ha).im (hv j x v hx hv2)
theorem Vg {E:Env} {n:Nat} {σ:St} (i:Nat) {e sz v:Nat} {l:List (List AV)} (l':List (List AV)) (hb:B0 σ.hp i = some (.row e sz v l)) (hn:Is l l') (hlt:Nat.blt e G4 = true:=by rfl):St.le E n σ (σ.set i (.row e sz v l')):=by
 unfold St.le
 rintro a w ⟨θ,h⟩
 obtain ⟨hlen,hel⟩:=hn.get
 obtain ⟨_,xs,ho,hsz,him,_⟩:=h.owns i _ hb
 have hsl:∃ x m c,θ i = .slice x m c:=by
  rcases ho.2 with ⟨h1,_⟩ | ⟨g,cap,cur,h1,_⟩
  ·exact ⟨_,_,_,h1⟩
  ·exact ⟨_,_,_,h1⟩
 have ht:=h.turn (v':=θ i) (b':=.row e sz v l') (w':=w) hb rfl rfl rfl (Nat.le_refl _) (fun _ _ _=>rfl) (fun k hk=>.inl hk) ⟨hsl,e,v,l,rfl, .inr ⟨rfl,hlen,rfl⟩⟩ fun le=>?_
 ·exact ⟨_,ht⟩
 ·refine ⟨xs,?_,fun e' he'=>?_,fun k el' hk j x hx=>?_, .lt (Nat.blt_eq ▸ hlt)⟩
  ·simp only [cx,C6]
   rw [← hlen]
   exact ho
  ·obtain ⟨k,hk,rfl⟩:=List.getElem_of_mem he'
   obtain ⟨x,hx⟩:=L7 hlen (List.getElem?_eq_getElem hk)
   rw [← (hel k x _ hx (List.getElem?_eq_getElem hk)).get.1]
   exact hsz x (List.mem_of_getElem? hx)
  ·obtain ⟨el,hk0⟩:=L7 hlen hk
   obtain ⟨q1,q2⟩:=(hel k el el' hk0 hk).get
   obtain ⟨x0,hx0⟩:=L7 q1 hx
   obtain ⟨y,hy,hi⟩:=him k el hk0 j x0 hx0
   exact ⟨y,hy,(q2 j x0 x hx0 hx).im (hi.mono le.heap le.U)⟩
abbrev GR:Nat:=49
abbrev N5:Nat:=77
abbrev sB (l:List UInt8) (a:Nat) (s:B8):Hp:=[(0,some (.box [.sl 1 (l.map R8), .i a])),(1,some (.row N5 2 0 (s.lists.map F2))),(2,some (.row GR 7 0 (s.cols.map C2)))]
set_option maxHeartbeats 4000000 in
theorem Ty (l:List UInt8) (a:Nat) (hl:l.length ≤ 400):B6 Tryz.prog 19 1 (t8 l a) [.ref 0 0] 3 (sB l (m8 l a).2 (m8 l a).1) (.agg [.row 1 0 2, .row 2 0 (m8 l a).1.cols.length]):=by
 have hc1:=Jl l a E9 hl
 have hc2:=Jl l (H7 l a).2 Ax hl
 have e:m8 l a = (⟨[(E9,(H7 l a).1),(Ax,(H7 l (H7 l a).2).1)],(j7 l (P8 (decide (((C4 l (H7 l (H7 l a).2).2 2).1:Int) = 1)),(C4 l (C4 l (H7 l (H7 l a).2).2 2).2 3).2) (1 + (C4 l (C4 l (H7 l (H7 l a).2).2 2).2 3).1)).1⟩,(j7 l (P8 (decide (((C4 l (H7 l (H7 l a).2).2 2).1:Int) = 1)),(C4 l (C4 l (H7 l (H7 l a).2).2 2).2 3).2) (1 + (C4 l (C4 l (H7 l (H7 l a).2).2 2).2 3).1)).2):=rfl
 rw [e]
 clear e
 generalize hl1:H7 l a = l1 at *
 generalize hl2:H7 l l1.2 = l2 at *
 obtain ⟨c1,a1⟩:=l1
 obtain ⟨c2,a2⟩:=l2
 dsimp only at hl2 hc1 hc2 ⊢
 have hc3:=Bo l a2 2 hl (by omega)
 generalize hb:C4 l a2 2 = b at *
 obtain ⟨b1,b2⟩:=b
 dsimp only at hc3 ⊢
 have hc4:=l6 l b2 1 3 hl (by omega) (by omega) (by omega)
 have h3:=M7 l b2 (n:=3) (by omega)
 rw [show (3:Int) - 1 + 1 = 3 from rfl] at hc4
 generalize hm:C4 l b2 3 = m at *
 obtain ⟨m1,m2⟩:=m
 dsimp only at hc4 h3 ⊢
 refine M6 Tryz.func19 41 fun E h0=>?_
 repeat' ((first | refine ⟨O7 [0] [0] hc1 rfl rfl rfl rfl rfl ⟨rfl,trivial⟩ rfl rfl rfl rfl rfl ?_⟩ | refine ⟨O7 [0] [0] hc2 rfl rfl rfl rfl rfl ⟨rfl,trivial⟩ rfl rfl rfl rfl rfl ?_⟩ | refine Z0 (T:=24) rfl ?_ | (refine WU 3 [0,2,6,8] ?_;(try (conv=>whnf));refine Cm (Qb 5) ?_;refine Lc [0,2,6,8] ?_;(try (conv=>whnf));refine Z0 (T:=23) rfl ?_) | refine ⟨O7 [0] [0] hc3 rfl rfl rfl rfl rfl ⟨rfl,trivial⟩ rfl rfl rfl rfl rfl ?_⟩ | refine ⟨O7 [0] [0] hc4 rfl rfl rfl rfl rfl ⟨rfl,trivial⟩ rfl rfl rfl rfl rfl ?_⟩ |refine A1 ?_|refine S1 ?_|refine Z1 ?_|refine Z2 ?_|(refine And.intro ?_ ?_<;>intro h<;>try first|(exfalso;omega)|exact absurd rfl h)|refine Z3 ?_|refine Z4 ?_|intro el hel hbB|intro el hel|intro ex|refine Z5 ?_|(refine A6 ?_ ?_;exact ⟨by kernel_rfl,by decide⟩)|refine A5 ?_ ?_|exact A4|refine A3 ?_ ?_|exact A2|(refine A0 ?_ ?_ ?_;kernel_rfl;kernel_rfl)) <;> (try (conv=>whnf)))
 all_goals
  refine Ti [0,2,3,4] ?_
  (try (conv=>whnf))
 ·have hb1:(b1:Int) = 1:=by omega
  rw [decide_eq_true hb1]
  refine C5 (ι:=Nat × List C1 × Nat) (fun x=>⟨[(0, .ref 0 0),(2, .ref 1 0),(3, .ref 8 0),(4, .i x.1)],9,[(0,some (.box [.sl 1 (l.map R8), .i x.2.2])),(1,some (.box [.v (.slice none 0 0), .v (.slice none 0 0)])),(6,some (.row N5 2 0 [F2 (E9,c1),F2 (Ax,c2)])),(7,some (.row GR 7 0 (x.2.1.map C2))),(8,some (.box [.row 6 0 2, .row 7 0 x.2.1.length]))]⟩)
   (fun x=>x.1 ≤ 3 ∧ x.2.1.length + x.1 ≤ 6 ∧ j7 l (P8 true,m2) (1 + m1) = j7 l x.2 x.1) (fun x=>x.1) (1 + m1,P8 true,m2) ⟨by dsimp only;omega,by simp only [P8,_root_.cond_true,_root_.cond_false,List.length_cons,List.length_nil];omega,rfl⟩
   (C7 (Vg 7 ((P8 true).map C2) rfl ⟨⟨.refl _, .refl _, .refl _, .refl _, .refl _, .nil 1, .refl _,trivial⟩,⟨.refl _, .refl _, .refl _, .refl _, .refl _, .nil 1, .refl _,trivial⟩,⟨.refl _, .refl _, .refl _, .refl _, .refl _, .nil 1, .refl _,trivial⟩,trivial⟩) (A8 h0 rfl ⟨rfl,rfl,rfl,rfl,trivial⟩ ⟨rfl,rfl,⟨_,rfl⟩,⟨_,rfl⟩,rfl,trivial⟩ rfl rfl rfl)) (fun x hI=>?_)
  obtain ⟨k,cs,a3⟩:=x
  obtain ⟨hk,hlen,hI⟩:=hI
  dsimp only at hk hlen hI ⊢
  have hmea:=Lv l a3 (Y4 cs.length) hl
  have hi1:=CN cs.length (by omega)
  have hil:=w8 cs.length
  repeat' ((first | refine I3 ⟨[(0, .ref 0 0),(2, .ref 1 0),(3, .ref 8 0),(4, .i k)],9,[(0,some (.box [.sl 1 (l.map R8), .i (W8 l a3 (Y4 cs.length)).2])),(1,some (.box [.v (.slice none 0 0), .v (.slice none 0 0)])),(6,some (.row N5 2 0 [F2 (E9,c1),F2 (Ax,c2)])),(7,some (.row GR 7 0 ((cs ++ [(W8 l a3 (Y4 cs.length)).1]).map C2))),(8,some (.box [.row 6 0 2, .row 7 0 (cs ++ [(W8 l a3 (Y4 cs.length)).1]).length]))]⟩ ?_ ?_ | refine A9 hi1 ?_ | (refine G7 ?_ ?_;(show 1 + (o7 cs.length).length ≤ _;omega)) | refine ⟨O7 [0] [0] hmea rfl rfl rfl rfl rfl ⟨rfl,trivial⟩ rfl rfl rfl rfl rfl ?_⟩ |refine A1 ?_|refine S1 ?_|refine Z1 ?_|refine Z2 ?_|(refine And.intro ?_ ?_<;>intro h<;>try first|(exfalso;omega)|exact absurd rfl h)|refine Z3 ?_|refine Z4 ?_|intro el hel hbB|intro el hel|intro ex|refine Z5 ?_|(refine A6 ?_ ?_;exact ⟨by kernel_rfl,by decide⟩)|refine A5 ?_ ?_|exact A4|refine A3 ?_ ?_|exact A2|(refine A0 ?_ ?_ ?_;kernel_rfl;kernel_rfl)) <;> (try (conv=>whnf)))
  all_goals first
   | exact A8 h0 rfl ⟨rfl,rfl,rfl,rfl,trivial⟩ ⟨rfl,rfl,⟨_,rfl⟩,⟨_,congrArg (C0.row GR 7 _) (by rw [List.map_append];rfl)⟩,congrArg (fun z=>C0.box [.row 6 0 2, .row 7 0 z]) (by rw [List.length_append];rfl),trivial⟩ rfl rfl rfl
   | (obtain ⟨k',rfl⟩:∃ k',k = k' + 1:=⟨k - 1,by omega⟩
      exact ⟨(k',cs ++ [(W8 l a3 (Y4 cs.length)).1],(W8 l a3 (Y4 cs.length)).2),⟨by dsimp only;omega,by dsimp only;rw [List.length_append,List.length_singleton];omega,hI⟩,by dsimp only;omega,A8 h0 rfl ⟨rfl,rfl,rfl,congrArg (fun z=>some (AV.i z)) (by dsimp only;omega),trivial⟩ ⟨rfl,rfl,⟨_,rfl⟩,⟨_,rfl⟩,rfl,trivial⟩ rfl rfl rfl⟩)
   | (obtain rfl:k = 0:=by omega
      rw [hI]
      exact V1 (rvs:=[.cell 2 26]) (vs:=[_]) ⟨1,_,_,rfl,rfl,inferInstance,rfl,rfl,trivial⟩ rfl rfl (C7 (Co 1 6 h0 rfl rfl) (C7 (Co 2 7 h0 rfl rfl) (A8 h0 rfl ⟨rfl,trivial⟩ ⟨rfl,⟨_,rfl⟩,⟨_,rfl⟩,trivial⟩ rfl rfl rfl))) rfl)
 ·have hb1:¬ (b1:Int) = 1:=by omega
  rw [decide_eq_false hb1]
  refine C5 (ι:=Nat × List C1 × Nat) (fun x=>⟨[(0, .ref 0 0),(2, .ref 1 0),(3, .ref 8 0),(4, .i x.1)],9,[(0,some (.box [.sl 1 (l.map R8), .i x.2.2])),(1,some (.box [.v (.slice none 0 0), .v (.slice none 0 0)])),(6,some (.row N5 2 0 [F2 (E9,c1),F2 (Ax,c2)])),(7,some (.row GR 7 0 (x.2.1.map C2))),(8,some (.box [.row 6 0 2, .row 7 0 x.2.1.length]))]⟩)
   (fun x=>x.1 ≤ 3 ∧ x.2.1.length + x.1 ≤ 6 ∧ j7 l (P8 false,m2) (1 + m1) = j7 l x.2 x.1) (fun x=>x.1) (1 + m1,P8 false,m2) ⟨by dsimp only;omega,by simp only [P8,_root_.cond_true,_root_.cond_false,List.length_cons,List.length_nil];omega,rfl⟩
   (C7 (Vg 7 ((P8 false).map C2) rfl ⟨⟨.refl _, .refl _, .refl _, .refl _, .refl _, .nil 1, .refl _,trivial⟩,⟨.refl _, .refl _, .refl _, .refl _, .refl _, .nil 1, .refl _,trivial⟩,trivial⟩) (A8 h0 rfl ⟨rfl,rfl,rfl,rfl,trivial⟩ ⟨rfl,rfl,⟨_,rfl⟩,⟨_,rfl⟩,rfl,trivial⟩ rfl rfl rfl)) (fun x hI=>?_)
  obtain ⟨k,cs,a3⟩:=x
  obtain ⟨hk,hlen,hI⟩:=hI
  dsimp only at hk hlen hI ⊢
  have hmea:=Lv l a3 (Y4 cs.length) hl
  have hi1:=CN cs.length (by omega)
  have hil:=w8 cs.length
  repeat' ((first | refine I3 ⟨[(0, .ref 0 0),(2, .ref 1 0),(3, .ref 8 0),(4, .i k)],9,[(0,some (.box [.sl 1 (l.map R8), .i (W8 l a3 (Y4 cs.length)).2])),(1,some (.box [.v (.slice none 0 0), .v (.slice none 0 0)])),(6,some (.row N5 2 0 [F2 (E9,c1),F2 (Ax,c2)])),(7,some (.row GR 7 0 ((cs ++ [(W8 l a3 (Y4 cs.length)).1]).map C2))),(8,some (.box [.row 6 0 2, .row 7 0 (cs ++ [(W8 l a3 (Y4 cs.length)).1]).length]))]⟩ ?_ ?_ | refine A9 hi1 ?_ | (refine G7 ?_ ?_;(show 1 + (o7 cs.length).length ≤ _;omega)) | refine ⟨O7 [0] [0] hmea rfl rfl rfl rfl rfl ⟨rfl,trivial⟩ rfl rfl rfl rfl rfl ?_⟩ |refine A1 ?_|refine S1 ?_|refine Z1 ?_|refine Z2 ?_|(refine And.intro ?_ ?_<;>intro h<;>try first|(exfalso;omega)|exact absurd rfl h)|refine Z3 ?_|refine Z4 ?_|intro el hel hbB|intro el hel|intro ex|refine Z5 ?_|(refine A6 ?_ ?_;exact ⟨by kernel_rfl,by decide⟩)|refine A5 ?_ ?_|exact A4|refine A3 ?_ ?_|exact A2|(refine A0 ?_ ?_ ?_;kernel_rfl;kernel_rfl)) <;> (try (conv=>whnf)))
  all_goals first
   | exact A8 h0 rfl ⟨rfl,rfl,rfl,rfl,trivial⟩ ⟨rfl,rfl,⟨_,rfl⟩,⟨_,congrArg (C0.row GR 7 _) (by rw [List.map_append];rfl)⟩,congrArg (fun z=>C0.box [.row 6 0 2, .row 7 0 z]) (by rw [List.length_append];rfl),trivial⟩ rfl rfl rfl
   | (obtain ⟨k',rfl⟩:∃ k',k = k' + 1:=⟨k - 1,by omega⟩
      exact ⟨(k',cs ++ [(W8 l a3 (Y4 cs.length)).1],(W8 l a3 (Y4 cs.length)).2),⟨by dsimp only;omega,by dsimp only;rw [List.length_append,List.length_singleton];omega,hI⟩,by dsimp only;omega,A8 h0 rfl ⟨rfl,rfl,rfl,congrArg (fun z=>some (AV.i z)) (by dsimp only;omega),trivial⟩ ⟨rfl,rfl,⟨_,rfl⟩,⟨_,rfl⟩,rfl,trivial⟩ rfl rfl rfl⟩)
   | (obtain rfl:k = 0:=by omega
      rw [hI]
      exact V1 (rvs:=[.cell 2 26]) (vs:=[_]) ⟨1,_,_,rfl,rfl,inferInstance,rfl,rfl,trivial⟩ rfl rfl (C7 (Co 1 6 h0 rfl rfl) (C7 (Co 2 7 h0 rfl rfl) (A8 h0 rfl ⟨rfl,trivial⟩ ⟨rfl,⟨_,rfl⟩,⟨_,rfl⟩,trivial⟩ rfl rfl rfl))) rfl)
end Go.Proofs.YtiphlhoclaogjabGreatDoor
