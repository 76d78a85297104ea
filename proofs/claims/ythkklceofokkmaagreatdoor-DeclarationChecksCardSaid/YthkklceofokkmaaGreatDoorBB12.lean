/- Draws: measures. Chapter 2: what every drawn schema is like. Nothing laid is an empty row: in arguments of calls, and in rows of one's own. Draws: schemas. Chapter 2: the example of the chapter. -/
import Derived.Test.YthkklceofokkmaaGreatDoorBB5
import Derived.Test.YthkklceofokkmaaGreatDoorBB7
import Derived.Test.YthkklceofokkmaaGreatDoorBE3
import Derived.Test.YthkklceofokkmaaGreatDoorBAvTy
import Derived.Test.YthkklceofokkmaaGreatDoorBCd1
set_option linter.unusedVariables false
set_option linter.unnecessarySimpa false
set_option linter.unusedSimpArgs false
namespace Go.Proofs.YthkklceofokkmaaGreatDoor
open Go Go.Av
attribute [local irreducible] E5 B7 E6 E7 DQ E8 F0 St.le B3 B5
set_option maxRecDepth 100000
def Dn:List (List Int):=[[1],[1,5],[1,5,20],[1,2,4,12]]
def k8 (l:List UInt8) (a:Nat) (nm:List UInt8):G9 × Nat :=
 let low:=-4 + ((B9 l a 7).1:Int)
 let a1:=(B9 l a 7).2
 let a2:=(B9 l a1 4).2
 let a3:=(B9 l a2 3).2
 (⟨nm,3,0,low,low + ((B9 l a3 45).1:Int),Dn.getD (B9 l a1 4).1 [],decide (((B9 l a2 3).1:Int) = 2)⟩,(B9 l a3 45).2)
theorem dO {n:Nat} {F:List AV → Prop} (h:(n:Int) < 4) (k:F [.sl 1 ((Dn.getD n []).map wA)]):R0 (Dn.map fun ws=>[AV.sl 1 (ws.map wA)]) (n:Int) F:=by
 refine AR (by show n < 4;omega) fun x hx=>?_
 rw [List.getD_eq_getElem?_getD,hx] at k
 exact k
set_option maxHeartbeats 4000000 in
theorem PU (l:List UInt8) (a:Nat) (nm:List UInt8) (hl:l.length ≤ 400):B5 Tryz.prog 27 1 (D9 l a) [.ref 0 0, .str nm] 1 (D9 l (k8 l a nm).2) (FD (k8 l a nm).1):=by
 have h7:=I0 l a (n:=7) (by omega)
 have h4:=I0 l (B9 l a 7).2 (n:=4) (by omega)
 refine G3 Tryz.func27 28 fun E h0=>?_
 repeat' ((first|refine A1 ?_|refine S1 ?_|refine Z1 ?_|refine Z2 ?_|(refine And.intro ?_ ?_<;>intro h<;>try first|(exfalso;omega)|exact absurd rfl h)|refine Z3 ?_|refine Z4 ?_|intro el hel hbB|intro el hel|intro ex|refine Z5 ?_|(refine A8 ?_ ?_;exact ⟨by kernel_rfl,by decide⟩)|refine A7 ?_ ?_|exact A6|refine A3 ?_ ?_|exact A2|(refine A0 ?_ ?_ ?_;kernel_rfl;kernel_rfl)) <;> (try (conv=>whnf)))
 refine F3 ⟨[(0, .ref 0 0),(4, .ref 1 0),(5, .ref 2 0)],3,[(0,some (.box [.sl 1 (l.map S6), .i (B9 l (B9 l (B9 l a 7).2 4).2 3).2])),(1,some (.box [.str [], .i 0, .i 0, .i 0, .i 0, .v (.slice none 0 0), .b false])),(2,some (.box [.str nm, .i 3, .i 0, .i (-4 + ((B9 l a 7).1:Int)), .i 0, .sl 1 ((Dn.getD (B9 l (B9 l a 7).2 4).1 []).map wA), .b (decide (((B9 l (B9 l (B9 l a 7).2 4).2 3).1:Int) = 2))]))]⟩ ?_ ?_
 ·repeat' ((first | refine ⟨C3 [0] [0] (Y0 _ _ _ _ hl (by omega) (by omega) (by omega)) rfl rfl rfl rfl rfl ⟨rfl,trivial⟩ rfl rfl rfl rfl rfl ?_⟩ | refine ⟨C3 [0] [0] (AY _ _ _ hl (by omega)) rfl rfl rfl rfl rfl ⟨rfl,trivial⟩ rfl rfl rfl rfl rfl ?_⟩ | refine ⟨C3 [0] [0] (J9 _ _ _ hl) rfl rfl rfl rfl rfl ⟨rfl,trivial⟩ rfl rfl rfl rfl rfl ?_⟩ | refine dO h4 ?_ |refine A1 ?_|refine S1 ?_|refine Z1 ?_|refine Z2 ?_|(refine And.intro ?_ ?_<;>intro h<;>try first|(exfalso;omega)|exact absurd rfl h)|refine Z3 ?_|refine Z4 ?_|intro el hel hbB|intro el hel|intro ex|refine Z5 ?_|(refine A8 ?_ ?_;exact ⟨by kernel_rfl,by decide⟩)|refine A7 ?_ ?_|exact A6|refine A3 ?_ ?_|exact A2|(refine A0 ?_ ?_ ?_;kernel_rfl;kernel_rfl)) <;> (try (conv=>whnf)))
  all_goals first
   | exact A5 h0 rfl ⟨rfl,rfl,rfl,trivial⟩ ⟨rfl,rfl,rfl,trivial⟩ rfl rfl rfl
 repeat' ((first|refine A1 ?_|refine S1 ?_|refine Z1 ?_|refine Z2 ?_|(refine And.intro ?_ ?_<;>intro h<;>try first|(exfalso;omega)|exact absurd rfl h)|refine Z3 ?_|refine Z4 ?_|intro el hel hbB|intro el hel|intro ex|refine Z5 ?_|(refine A8 ?_ ?_;exact ⟨by kernel_rfl,by decide⟩)|refine A7 ?_ ?_|exact A6|refine A3 ?_ ?_|exact A2|(refine A0 ?_ ?_ ?_;kernel_rfl;kernel_rfl)) <;> (try (conv=>whnf)))
 refine F3 ⟨[(0, .ref 0 0),(4, .ref 1 0),(5, .ref 2 0)],3,[(0,some (.box [.sl 1 (l.map S6), .i (B9 l (B9 l (B9 l (B9 l a 7).2 4).2 3).2 45).2])),(1,some (.box [.str [], .i 0, .i 0, .i 0, .i 0, .v (.slice none 0 0), .b false])),(2,some (.box [.str nm, .i 3, .i 0, .i (-4 + ((B9 l a 7).1:Int)), .i (-4 + ((B9 l a 7).1:Int) + ((B9 l (B9 l (B9 l (B9 l a 7).2 4).2 3).2 45).1:Int)), .sl 1 ((Dn.getD (B9 l (B9 l a 7).2 4).1 []).map wA), .b (decide (((B9 l (B9 l (B9 l a 7).2 4).2 3).1:Int) = 2))]))]⟩ ?_ ?_
 ·have h45:=I0 l (B9 l (B9 l (B9 l a 7).2 4).2 3).2 (n:=45) (by omega)
  repeat' ((first | refine ⟨C3 [0] [0] (J9 _ _ _ hl) rfl rfl rfl rfl rfl ⟨rfl,trivial⟩ rfl rfl rfl rfl rfl ?_⟩ |refine A1 ?_|refine S1 ?_|refine Z1 ?_|refine Z2 ?_|(refine And.intro ?_ ?_<;>intro h<;>try first|(exfalso;omega)|exact absurd rfl h)|refine Z3 ?_|refine Z4 ?_|intro el hel hbB|intro el hel|intro ex|refine Z5 ?_|(refine A8 ?_ ?_;exact ⟨by kernel_rfl,by decide⟩)|refine A7 ?_ ?_|exact A6|refine A3 ?_ ?_|exact A2|(refine A0 ?_ ?_ ?_;kernel_rfl;kernel_rfl)) <;> (try (conv=>whnf)))
  all_goals first
   | exact A5 h0 rfl ⟨rfl,rfl,rfl,trivial⟩ ⟨rfl,rfl,rfl,trivial⟩ rfl rfl rfl
 repeat' ((first|refine A1 ?_|refine S1 ?_|refine Z1 ?_|refine Z2 ?_|(refine And.intro ?_ ?_<;>intro h<;>try first|(exfalso;omega)|exact absurd rfl h)|refine Z3 ?_|refine Z4 ?_|intro el hel hbB|intro el hel|intro ex|refine Z5 ?_|(refine A8 ?_ ?_;exact ⟨by kernel_rfl,by decide⟩)|refine A7 ?_ ?_|exact A6|refine A3 ?_ ?_|exact A2|(refine A0 ?_ ?_ ?_;kernel_rfl;kernel_rfl)) <;> (try (conv=>whnf)))
 exact D0 (rvs:=[.cell 4 69]) (vs:=[_]) ⟨1,_,_,rfl,rfl,inferInstance,rfl,rfl,trivial⟩ rfl rfl (A5 h0 rfl ⟨rfl,trivial⟩ ⟨rfl,trivial⟩ rfl rfl rfl) rfl
def Lu:G9:=⟨[119,104,111],1,0,0,0,[],false⟩
def FE:G9:=⟨[115,101,120],2,0,0,0,[],false⟩
def Lv:G9:=⟨[106,111,98],2,1,0,0,[],false⟩
def o9 (n:Nat):List UInt8:=[109] ++ M4 n
def Ac (l:List UInt8):List G9 × Nat → Nat → List G9 × Nat
 | s,0=>s
 | s,k + 1=>Ac l (s.1 ++ [(k8 l s.2 (o9 s.1.length)).1],(k8 l s.2 (o9 s.1.length)).2) k
abbrev DU:List UInt8:=[116,119,111]
abbrev H1:List UInt8:=[111,110,101]
def O3 (b:Bool):List G9:=cond b [Lu,FE,Lv] [Lu,FE]
def FF (l:List UInt8) (a:Nat):B2 × Nat :=
 let l1:=K1 l a
 let l2:=K1 l l1.2
 let b:=B9 l l2.2 2
 let m:=B9 l b.2 3
 let r:=Ac l (O3 (decide ((b.1:Int) = 1)),m.2) (1 + m.1)
 (⟨[(H1,l1.1),(DU,l2.1)],r.1⟩,r.2)
structure Y5 (c:G9) (nm:List UInt8):Prop where
 name:c.name = nm
 kind:c.kind = 3
 lst:c.lst = 0
 low:-4 ≤ c.low ∧ c.low ≤ 2
 high:c.low ≤ c.high ∧ c.high ≤ c.low + 44
 wid:c.widths ∈ Dn
theorem aj (l:List UInt8) (a:Nat) (nm:List UInt8):Y5 (k8 l a nm).1 nm:=by
 have h7:=I0 l a (n:=7) (by omega)
 have h4:=I0 l (B9 l a 7).2 (n:=4) (by omega)
 have h45:=I0 l (B9 l (B9 l (B9 l a 7).2 4).2 3).2 (n:=45) (by omega)
 refine ⟨rfl,rfl,rfl,?_,?_,?_⟩
 ·simp only [k8];omega
 ·simp only [k8];omega
 ·simp only [k8]
  have hlt:(B9 l (B9 l a 7).2 4).1 < Dn.length:=by show _ < 4;omega
  rw [List.getD_eq_getElem?_getD,List.getElem?_eq_getElem hlt]
  exact List.getElem_mem hlt
theorem JJ (l:List UInt8):∀ (k:Nat) (s:List G9 × Nat), ∃ ms,(Ac l s k).1 = s.1 ++ ms ∧ ms.length = k ∧ ∀ (i:Nat) c,ms[i]? = some c → Y5 c (o9 (s.1.length + i))
 | 0,s=>⟨[],by simp [Ac],rfl,fun i c h=>by simp at h⟩
 | k + 1,s=>by
   obtain ⟨ms,h1,h2,h3⟩:=JJ l k (s.1 ++ [(k8 l s.2 (o9 s.1.length)).1],(k8 l s.2 (o9 s.1.length)).2)
   refine ⟨(k8 l s.2 (o9 s.1.length)).1 :: ms,?_,by simp [h2],fun i c hc=>?_⟩
   ·rw [Ac,h1];simp
   ·cases i with
    | zero=>simp at hc;subst hc;exact aj _ _ _
    | succ i =>
      have:=h3 i c (by simpa using hc)
      simp only [List.length_append,List.length_singleton] at this
      rwa [show s.1.length + (i + 1) = s.1.length + 1 + i by omega]
structure F6 (s:B2):Prop where
 ls:∃ l1 l2,l1 ∈ Ky ∧ l2 ∈ Ky ∧ s.lists = [(H1,l1),(DU,l2)]
 cs:∃ b ms,s.cols = O3 b ++ ms ∧ 1 ≤ ms.length ∧ ms.length ≤ 3 ∧ ∀ (i:Nat) c,ms[i]? = some c → Y5 c (o9 ((O3 b).length + i))
theorem Gc (l:List UInt8) (a:Nat):F6 (FF l a).1:=by
 refine ⟨⟨_,_,NA l a,NA l (K1 l a).2,rfl⟩,?_⟩
 have h3:=I0 l (B9 l (K1 l (K1 l a).2).2 2).2 (n:=3) (by omega)
 obtain ⟨ms,h1,h2,h4⟩:=JJ l (1 + (B9 l (B9 l (K1 l (K1 l a).2).2 2).2 3).1) (O3 (decide (((B9 l (K1 l (K1 l a).2).2 2).1:Int) = 1)),(B9 l (B9 l (K1 l (K1 l a).2).2 2).2 3).2)
 exact ⟨_,ms,h1,by omega,by omega,h4⟩
def PX (b:Bool) (n:Nat):List (List UInt8):=(O3 b).map (·.name) ++ (List.range n).map fun i=>o9 ((O3 b).length + i)
def Ze (l:List (List UInt8)):Bool:=(List.range l.length).all fun i=>C9 (l.getD i []) && !((l.take i).any fun x=>decide (x = l.getD i []))
theorem Xi:([true,false].all fun b=>[1,2,3].all fun n=>Ze (PX b n)) = true:=by decide +kernel
def VW (cs:List Code):Bool:=decide (chk H1 cs = 0) && decide (chk DU cs = 0) && decide (1 ≤ G7 H1 cs ∧ G7 H1 cs ≤ 5) && decide (cs.length ≤ 10) && decide (1 ≤ (V2 H1 cs (G7 H1 cs - 1)).length ∧ (V2 H1 cs (G7 H1 cs - 1)).length ≤ 10) && ((V2 H1 cs (G7 H1 cs - 1)).all fun k=>decide (k < cs.length))
theorem ak:Ky.all VW = true:=by decide +kernel
structure eu (cs:List Code):Prop where
 one:chk H1 cs = 0
 two:chk DU cs = 0
 lv:1 ≤ G7 H1 cs ∧ G7 H1 cs ≤ 5
 len:cs.length ≤ 10
 at':1 ≤ (V2 H1 cs (G7 H1 cs - 1)).length ∧ (V2 H1 cs (G7 H1 cs - 1)).length ≤ 10
 mem:∀ k ∈ V2 H1 cs (G7 H1 cs - 1),k < cs.length
theorem ER {cs:List Code} (h:cs ∈ Ky):eu cs:=by
 have:=List.all_eq_true.1 ak _ h
 simp only [VW,Bool.and_eq_true,decide_eq_true_eq,List.all_eq_true] at this
 obtain ⟨⟨⟨⟨⟨h1,h2⟩,h3⟩,h4⟩,h5⟩,h6⟩:=this
 exact ⟨h1,h2,h3,h4,h5,h6⟩
theorem PY {a b:List UInt8} (h:C9 a = C9 b) (cs:List Code):chk a cs = chk b cs:=by unfold chk;rw [h]
theorem am {a b:List UInt8} (h:C9 a = C9 b) (cs:List Code) (k:Int):hasB a cs k = hasB b cs k:=by unfold hasB;rw [PY h]
theorem Do {a b:List UInt8} (h:C9 a = C9 b) (cs:List Code):G7 a cs = G7 b cs:=by unfold G7;rw [PY h]
theorem PZ {a b:List UInt8} (h:C9 a = C9 b) (cs:List Code) (k lv:Int):BC a cs k lv = BC b cs k lv:=by unfold BC;rw [am h]
theorem Hg {a b:List UInt8} (h:C9 a = C9 b) (cs:List Code) (lv:Int):V2 a cs lv = V2 b cs lv:=by unfold V2;rw [PY h]
theorem dP:C9 DU = C9 H1:=by decide
theorem u5 {α:Type} {f:Nat → α → Int}:∀ {l:List α} {k:Nat},(∀ (i:Nat) x,l[i]? = some x → f (k + i) x = 0) → I2 f k l = 0
 | [],k,_=>rfl
 | y :: r,k,h=>by
   have h0:=h 0 y rfl
   simp only [Nat.add_zero] at h0
   rw [I2,if_pos h0]
   refine u5 fun i x hx=>?_
   have:=h (i + 1) x (by simpa using hx)
   rwa [show k + (i + 1) = k + 1 + i by omega] at this
theorem Y5.meaE {c:G9} {nm:List UInt8} (h:Y5 c nm):meaE c = 0:=by
 have h1:=h.low
 have h2:=h.high
 have h3:=h.wid
 unfold Go.Proofs.YthkklceofokkmaaGreatDoor.meaE
 rw [if_neg (by omega)]
 simp only [Dn,List.mem_cons,List.not_mem_nil,or_false] at h3
 rcases h3 with h3 | h3 | h3 | h3 <;> rw [h3] <;> decide
theorem Y5.used {c:G9} {nm:List UInt8} (h:Y5 c nm):Dk c = true:=by
 unfold Dk
 rw [h.kind,h.lst]
 simp
theorem Y5.kindE {c:G9} {nm:List UInt8} (h:Y5 c nm) (s:B2) (i:Nat):kindE s i c = 0:=by
 unfold Go.Proofs.YthkklceofokkmaaGreatDoor.kindE
 rw [h.kind]
 simp [h.meaE]
theorem F6.col {s:B2} (h:F6 s) {i:Nat} {c:G9} (hc:s.cols[i]? = some c):(i = 0 ∧ c = Lu) ∨ (0 < i ∧ (c = FE ∨ c = Lv)) ∨ (0 < i ∧ ∃ nm,Y5 c nm):=by
 obtain ⟨b,ms,h1,_,_,h4⟩:=h.cs
 rw [h1,List.getElem?_append] at hc
 split at hc
 ·cases b <;> simp only [O3,_root_.cond_true,_root_.cond_false,List.length_cons,List.length_nil] at hc
  ·match i,hc with
   | 0,hc=>cases hc;exact .inl ⟨rfl,rfl⟩
   | 1,hc=>cases hc;exact .inr (.inl ⟨by omega, .inl rfl⟩)
   | n + 2,hc=>simp at hc
  ·match i,hc with
   | 0,hc=>cases hc;exact .inl ⟨rfl,rfl⟩
   | 1,hc=>cases hc;exact .inr (.inl ⟨by omega, .inl rfl⟩)
   | 2,hc=>cases hc;exact .inr (.inl ⟨by omega, .inr rfl⟩)
   | n + 3,hc=>simp at hc
 ·rename_i hlt
  refine .inr (.inr ⟨?_,_,h4 _ c hc⟩)
  cases b <;> simp [O3] at hlt <;> omega
theorem F6.names {s:B2} (h:F6 s):Ze (s.cols.map (·.name)) = true:=by
 obtain ⟨b,ms,h1,h2,h3,h4⟩:=h.cs
 have e:s.cols.map (·.name) = PX b ms.length:=by
  rw [h1,List.map_append]
  unfold PX
  congr 1
  refine List.ext_getElem? fun i=>?_
  rw [List.getElem?_map,List.getElem?_map]
  by_cases hi:i < ms.length
  ·rw [List.getElem?_eq_getElem hi,List.getElem?_range hi]
   simp only [Option.map_some]
   rw [(h4 i _ (List.getElem?_eq_getElem hi)).name]
  ·rw [List.getElem?_eq_none (by omega),List.getElem?_eq_none (by simp;omega)];rfl
 rw [e]
 have h5:=List.all_eq_true.1 (List.all_eq_true.1 Xi b (by cases b <;> simp)) ms.length
 refine h5 ?_
 have:ms.length = 1 ∨ ms.length = 2 ∨ ms.length = 3:=by omega
 rcases this with h | h | h <;> rw [h] <;> simp
theorem F6.colE {s:B2} (h:F6 s) {i:Nat} {c:G9} (hc:s.cols[i]? = some c):colE s i c = 0:=by
 have hi:=Q0 hc
 have hn:=List.all_eq_true.1 h.names i (by simpa using hi)
 simp only [Bool.and_eq_true,Bool.not_eq_true'] at hn
 have hg:(s.cols.map (·.name)).getD i [] = c.name:=by
  rw [List.getD_eq_getElem?_getD,List.getElem?_map,hc];rfl
 rw [hg] at hn
 have hd:DT s i c = false:=by
  unfold DT
  rw [← hn.2, ← List.map_take,List.any_map]
  rfl
 have hl:s.lists.length = 2:=by obtain ⟨l1,l2,_,_,h⟩:=h.ls;rw [h];rfl
 have hk:kindE s i c = 0 ∧ Dk c = true:=by
  rcases h.col hc with ⟨rfl,rfl⟩ | ⟨h0,rfl | rfl⟩ | ⟨h0,nm,hm⟩
  ·exact ⟨by unfold kindE;simp [Lu],by decide⟩
  ·exact ⟨by unfold kindE;rw [hl];simp [FE],by decide⟩
  ·exact ⟨by unfold kindE;rw [hl];simp [Lv],by decide⟩
  ·exact ⟨hm.kindE s i,hm.used⟩
 unfold Go.Proofs.YthkklceofokkmaaGreatDoor.colE
 rw [hn.1,hd,hk.1,hk.2]
 rfl
theorem F6.lens {s:B2} (h:F6 s):s.lists.length = 2 ∧ 3 ≤ s.cols.length ∧ s.cols.length ≤ 6:=by
 obtain ⟨l1,l2,_,_,h1⟩:=h.ls
 obtain ⟨b,ms,h2,h3,h4,_⟩:=h.cs
 refine ⟨by rw [h1];rfl,?_⟩
 rw [h2,List.length_append]
 cases b <;> simp [O3] <;> omega
theorem F6.ok {s:B2} (h:F6 s):C8 s = 0:=by
 have hl:=h.lens
 obtain ⟨l1,l2,m1,m2,e⟩:=h.ls
 unfold C8
 rw [if_neg (by omega)]
 have h1:I2 (a8 s.lists) 0 s.lists = 0:=by
  refine u5 fun i x hx=>?_
  rw [e] at hx ⊢
  rw [Nat.zero_add]
  match i,hx with
  | 0,hx=>cases hx;unfold a8;rw [if_pos (ER m1).one];rfl
  | 1,hx=>cases hx;unfold a8;rw [if_pos (ER m2).two];rfl
  | n + 2,hx=>simp at hx
 have h2:s.cols.head?.map (·.kind) = some 1:=by
  obtain ⟨b,ms,h2,_⟩:=h.cs
  rw [h2];cases b <;> rfl
 rw [if_pos h1,if_pos h2]
 exact u5 fun i x hx=>by rw [Nat.zero_add];exact h.colE hx
def Ff:List AV → List AV → Prop
 | [],[]=>True
 | x :: r,y :: s=>NL x y ∧ Ff r s
 | _,_=>False
def Lw:List (List AV) → List (List AV) → Prop
 | [],[]=>True
 | x :: r,y :: s=>Ff x y ∧ Lw r s
 | _,_=>False
theorem Ff.get:∀ {l m:List AV},Ff l m → l.length = m.length ∧ ∀ (j:Nat) x y,l[j]? = some x → m[j]? = some y → NL x y
 | [],[],_=>⟨rfl,fun j x y h=>by simp at h⟩
 | a :: r,b :: s,h=>by
   obtain ⟨h1,h2⟩:=Ff.get h.2
   refine ⟨by simp [h1],fun j x y hx hy=>?_⟩
   cases j with
   | zero=>simp at hx hy;subst hx hy;exact h.1
   | succ j=>exact h2 j x y (by simpa using hx) (by simpa using hy)
 | [],_ :: _,h=>h.elim
 | _ :: _,[],h=>h.elim
theorem Lw.get:∀ {l m:List (List AV)},Lw l m → l.length = m.length ∧ ∀ (i:Nat) e e',l[i]? = some e → m[i]? = some e' → Ff e e'
 | [],[],_=>⟨rfl,fun j x y h=>by simp at h⟩
 | a :: r,b :: s,h=>by
   obtain ⟨h1,h2⟩:=Lw.get h.2
   refine ⟨by simp [h1],fun j x y hx hy=>?_⟩
   cases j with
   | zero=>simp at hx hy;subst hx hy;exact h.1
   | succ j=>exact h2 j x y (by simpa using hx) (by simpa using hy)
 | [],_ :: _,h=>h.elim
 | _ :: _,[],h=>h.elim
theorem Ff.refl:∀ (l:List AV),Ff l l
 | []=>trivial
 | x :: r=>⟨.refl x,Ff.refl r⟩
theorem Hh {l m:List AV} (h:Ff l m):NL (.agg l) (.agg m):=.agg l m h.get.1 h.get.2
theorem ew {sz:Nat} {l m:List (List AV)} (h:Lw l m):NL (.sl sz l) (.sl sz m) :=
 .sl sz l m h.get.1 (fun i e e' he he'=>(h.get.2 i e e' he he').get.1) (fun i e e' he he'=>(h.get.2 i e e' he he').get.2)
theorem Xj {P:Program} {f:Nat} {l l':List AV} {r:AV} (h:B3 P f l r) (hn:Ff l' l):B3 P f l' r:=by
 obtain ⟨h1,h2⟩:=hn.get
 unfold B3 at h ⊢
 refine ⟨h.1,fun X w vs hX htb hl hv=>h.2 X w vs hX htb (by omega) fun j a v ha hv2=>?_⟩
 obtain ⟨x,hx⟩:=P3 h1 ha
 exact (h2 j x a hx ha).im (hv j x v hx hv2)
theorem Zf {E:Env} {n:Nat} {σ:St} (i:Nat) {e sz v:Nat} {l:List (List AV)} (l':List (List AV)) (hb:B4 σ.hp i = some (.row e sz v l)) (hn:Lw l l'):St.le E n σ (σ.set i (.row e sz v l')):=by
 unfold St.le
 rintro a w ⟨θ,h⟩
 obtain ⟨hlen,hel⟩:=hn.get
 obtain ⟨_,xs,ho,hsz,him⟩:=h.owns i _ hb
 have hsl:∃ x m c,θ i = .slice x m c:=by
  rcases ho.2 with ⟨h1,_⟩ | ⟨g,cap,cur,h1,_⟩
  ·exact ⟨_,_,_,h1⟩
  ·exact ⟨_,_,_,h1⟩
 have ht:=h.turn (v':=θ i) (b':=.row e sz v l') (w':=w) hb rfl rfl rfl (Nat.le_refl _) (fun _ _ _=>rfl) (fun k hk=>.inl hk) ⟨hsl,e,v,l,rfl, .inr ⟨rfl,hlen,rfl⟩⟩ fun le=>?_
 ·exact ⟨_,ht⟩
 ·refine ⟨xs,?_,fun e' he'=>?_,fun k el' hk j x hx=>?_⟩
  ·simp only [cx,F5]
   rw [← hlen]
   exact ho
  ·obtain ⟨k,hk,rfl⟩:=List.getElem_of_mem he'
   obtain ⟨x,hx⟩:=P3 hlen (List.getElem?_eq_getElem hk)
   rw [← (hel k x _ hx (List.getElem?_eq_getElem hk)).get.1]
   exact hsz x (List.mem_of_getElem? hx)
  ·obtain ⟨el,hk0⟩:=P3 hlen hk
   obtain ⟨q1,q2⟩:=(hel k el el' hk0 hk).get
   obtain ⟨x0,hx0⟩:=P3 q1 hx
   obtain ⟨y,hy,hi⟩:=him k el hk0 j x0 hx0
   exact ⟨y,hy,(q2 j x0 x hx0 hx).im (hi.mono le.heap le.U)⟩
abbrev Jl:Nat:=69
abbrev VX:Nat:=67
abbrev sB (l:List UInt8) (a:Nat) (s:B2):Hp:=[(0,some (.box [.sl 1 (l.map S6), .i a])),(1,some (.row VX 2 0 (s.lists.map O7))),(2,some (.row Jl 7 0 (s.cols.map L5)))]
set_option maxHeartbeats 4000000 in
theorem Xk (l:List UInt8) (a:Nat) (hl:l.length ≤ 400):B5 Tryz.prog 10 1 (D9 l a) [.ref 0 0] 3 (sB l (FF l a).2 (FF l a).1) (.agg [.row 1 0 2, .row 2 0 (FF l a).1.cols.length]):=by
 have hc1:=Mz l a H1 hl
 have hc2:=Mz l (K1 l a).2 DU hl
 have e:FF l a = (⟨[(H1,(K1 l a).1),(DU,(K1 l (K1 l a).2).1)],(Ac l (O3 (decide (((B9 l (K1 l (K1 l a).2).2 2).1:Int) = 1)),(B9 l (B9 l (K1 l (K1 l a).2).2 2).2 3).2) (1 + (B9 l (B9 l (K1 l (K1 l a).2).2 2).2 3).1)).1⟩,(Ac l (O3 (decide (((B9 l (K1 l (K1 l a).2).2 2).1:Int) = 1)),(B9 l (B9 l (K1 l (K1 l a).2).2 2).2 3).2) (1 + (B9 l (B9 l (K1 l (K1 l a).2).2 2).2 3).1)).2):=rfl
 rw [e]
 clear e
 generalize hl1:K1 l a = l1 at *
 generalize hl2:K1 l l1.2 = l2 at *
 obtain ⟨c1,a1⟩:=l1
 obtain ⟨c2,a2⟩:=l2
 dsimp only at hl2 hc1 hc2 ⊢
 have hc3:=AY l a2 2 hl (by omega)
 generalize hb:B9 l a2 2 = b at *
 obtain ⟨b1,b2⟩:=b
 dsimp only at hc3 ⊢
 have hc4:=Y0 l b2 1 3 hl (by omega) (by omega) (by omega)
 have h3:=I0 l b2 (n:=3) (by omega)
 rw [show (3:Int) - 1 + 1 = 3 from rfl] at hc4
 generalize hm:B9 l b2 3 = m at *
 obtain ⟨m1,m2⟩:=m
 dsimp only at hc4 h3 ⊢
 refine G3 Tryz.func10 41 fun E h0=>?_
 repeat' ((first | refine ⟨C3 [0] [0] hc1 rfl rfl rfl rfl rfl ⟨rfl,trivial⟩ rfl rfl rfl rfl rfl ?_⟩ | refine ⟨C3 [0] [0] hc2 rfl rfl rfl rfl rfl ⟨rfl,trivial⟩ rfl rfl rfl rfl rfl ?_⟩ | refine HY (T:=39) rfl ?_ | (refine aM 3 [0,2,6,8] ?_;(try (conv=>whnf));refine Cf (OT 5) ?_;refine EK [0,2,6,8] ?_;(try (conv=>whnf));refine HY (T:=38) rfl ?_) | refine ⟨C3 [0] [0] hc3 rfl rfl rfl rfl rfl ⟨rfl,trivial⟩ rfl rfl rfl rfl rfl ?_⟩ | refine ⟨C3 [0] [0] hc4 rfl rfl rfl rfl rfl ⟨rfl,trivial⟩ rfl rfl rfl rfl rfl ?_⟩ |refine A1 ?_|refine S1 ?_|refine Z1 ?_|refine Z2 ?_|(refine And.intro ?_ ?_<;>intro h<;>try first|(exfalso;omega)|exact absurd rfl h)|refine Z3 ?_|refine Z4 ?_|intro el hel hbB|intro el hel|intro ex|refine Z5 ?_|(refine A8 ?_ ?_;exact ⟨by kernel_rfl,by decide⟩)|refine A7 ?_ ?_|exact A6|refine A3 ?_ ?_|exact A2|(refine A0 ?_ ?_ ?_;kernel_rfl;kernel_rfl)) <;> (try (conv=>whnf)))
 all_goals
  refine XM [0,2,3,4] ?_
  (try (conv=>whnf))
 ·have hb1:(b1:Int) = 1:=by omega
  rw [decide_eq_true hb1]
  refine D8 (ι:=Nat × List G9 × Nat) (fun x=>⟨[(0, .ref 0 0),(2, .ref 1 0),(3, .ref 8 0),(4, .i x.1)],9,[(0,some (.box [.sl 1 (l.map S6), .i x.2.2])),(1,some (.box [.v (.slice none 0 0), .v (.slice none 0 0)])),(6,some (.row VX 2 0 [O7 (H1,c1),O7 (DU,c2)])),(7,some (.row Jl 7 0 (x.2.1.map L5))),(8,some (.box [.row 6 0 2, .row 7 0 x.2.1.length]))]⟩)
   (fun x=>x.1 ≤ 3 ∧ x.2.1.length + x.1 ≤ 6 ∧ Ac l (O3 true,m2) (1 + m1) = Ac l x.2 x.1) (fun x=>x.1) (1 + m1,O3 true,m2) ⟨by dsimp only;omega,by simp only [O3,_root_.cond_true,_root_.cond_false,List.length_cons,List.length_nil];omega,rfl⟩
   (B8 (Zf 7 ((O3 true).map L5) rfl ⟨⟨.refl _, .refl _, .refl _, .refl _, .refl _, .nil 1, .refl _,trivial⟩,⟨.refl _, .refl _, .refl _, .refl _, .refl _, .nil 1, .refl _,trivial⟩,⟨.refl _, .refl _, .refl _, .refl _, .refl _, .nil 1, .refl _,trivial⟩,trivial⟩) (A5 h0 rfl ⟨rfl,rfl,rfl,rfl,trivial⟩ ⟨rfl,rfl,⟨_,rfl⟩,⟨_,rfl⟩,rfl,trivial⟩ rfl rfl rfl)) (fun x hI=>?_)
  obtain ⟨k,cs,a3⟩:=x
  obtain ⟨hk,hlen,hI⟩:=hI
  dsimp only at hk hlen hI ⊢
  have hmea:=PU l a3 (o9 cs.length) hl
  have hi1:=Bj cs.length (by omega)
  have hil:=o8 cs.length
  repeat' ((first | refine F3 ⟨[(0, .ref 0 0),(2, .ref 1 0),(3, .ref 8 0),(4, .i k)],9,[(0,some (.box [.sl 1 (l.map S6), .i (k8 l a3 (o9 cs.length)).2])),(1,some (.box [.v (.slice none 0 0), .v (.slice none 0 0)])),(6,some (.row VX 2 0 [O7 (H1,c1),O7 (DU,c2)])),(7,some (.row Jl 7 0 ((cs ++ [(k8 l a3 (o9 cs.length)).1]).map L5))),(8,some (.box [.row 6 0 2, .row 7 0 (cs ++ [(k8 l a3 (o9 cs.length)).1]).length]))]⟩ ?_ ?_ | refine B0 hi1 ?_ | (refine G2 ?_ ?_;(show 1 + (M4 cs.length).length ≤ _;omega)) | refine ⟨C3 [0] [0] hmea rfl rfl rfl rfl rfl ⟨rfl,trivial⟩ rfl rfl rfl rfl rfl ?_⟩ |refine A1 ?_|refine S1 ?_|refine Z1 ?_|refine Z2 ?_|(refine And.intro ?_ ?_<;>intro h<;>try first|(exfalso;omega)|exact absurd rfl h)|refine Z3 ?_|refine Z4 ?_|intro el hel hbB|intro el hel|intro ex|refine Z5 ?_|(refine A8 ?_ ?_;exact ⟨by kernel_rfl,by decide⟩)|refine A7 ?_ ?_|exact A6|refine A3 ?_ ?_|exact A2|(refine A0 ?_ ?_ ?_;kernel_rfl;kernel_rfl)) <;> (try (conv=>whnf)))
  all_goals first
   | exact A5 h0 rfl ⟨rfl,rfl,rfl,rfl,trivial⟩ ⟨rfl,rfl,⟨_,rfl⟩,⟨_,congrArg (H4.row Jl 7 _) (by rw [List.map_append];rfl)⟩,congrArg (fun z=>H4.box [.row 6 0 2, .row 7 0 z]) (by rw [List.length_append];rfl),trivial⟩ rfl rfl rfl
   | (obtain ⟨k',rfl⟩:∃ k',k = k' + 1:=⟨k - 1,by omega⟩
      exact ⟨(k',cs ++ [(k8 l a3 (o9 cs.length)).1],(k8 l a3 (o9 cs.length)).2),⟨by dsimp only;omega,by dsimp only;rw [List.length_append,List.length_singleton];omega,hI⟩,by dsimp only;omega,A5 h0 rfl ⟨rfl,rfl,rfl,congrArg (fun z=>some (AV.i z)) (by dsimp only;omega),trivial⟩ ⟨rfl,rfl,⟨_,rfl⟩,⟨_,rfl⟩,rfl,trivial⟩ rfl rfl rfl⟩)
   | (obtain rfl:k = 0:=by omega
      rw [hI]
      exact D0 (rvs:=[.cell 2 41]) (vs:=[_]) ⟨1,_,_,rfl,rfl,inferInstance,rfl,rfl,trivial⟩ rfl rfl (B8 (FV 1 6 h0 rfl rfl) (B8 (FV 2 7 h0 rfl rfl) (A5 h0 rfl ⟨rfl,trivial⟩ ⟨rfl,⟨_,rfl⟩,⟨_,rfl⟩,trivial⟩ rfl rfl rfl))) rfl)
 ·have hb1:¬ (b1:Int) = 1:=by omega
  rw [decide_eq_false hb1]
  refine D8 (ι:=Nat × List G9 × Nat) (fun x=>⟨[(0, .ref 0 0),(2, .ref 1 0),(3, .ref 8 0),(4, .i x.1)],9,[(0,some (.box [.sl 1 (l.map S6), .i x.2.2])),(1,some (.box [.v (.slice none 0 0), .v (.slice none 0 0)])),(6,some (.row VX 2 0 [O7 (H1,c1),O7 (DU,c2)])),(7,some (.row Jl 7 0 (x.2.1.map L5))),(8,some (.box [.row 6 0 2, .row 7 0 x.2.1.length]))]⟩)
   (fun x=>x.1 ≤ 3 ∧ x.2.1.length + x.1 ≤ 6 ∧ Ac l (O3 false,m2) (1 + m1) = Ac l x.2 x.1) (fun x=>x.1) (1 + m1,O3 false,m2) ⟨by dsimp only;omega,by simp only [O3,_root_.cond_true,_root_.cond_false,List.length_cons,List.length_nil];omega,rfl⟩
   (B8 (Zf 7 ((O3 false).map L5) rfl ⟨⟨.refl _, .refl _, .refl _, .refl _, .refl _, .nil 1, .refl _,trivial⟩,⟨.refl _, .refl _, .refl _, .refl _, .refl _, .nil 1, .refl _,trivial⟩,trivial⟩) (A5 h0 rfl ⟨rfl,rfl,rfl,rfl,trivial⟩ ⟨rfl,rfl,⟨_,rfl⟩,⟨_,rfl⟩,rfl,trivial⟩ rfl rfl rfl)) (fun x hI=>?_)
  obtain ⟨k,cs,a3⟩:=x
  obtain ⟨hk,hlen,hI⟩:=hI
  dsimp only at hk hlen hI ⊢
  have hmea:=PU l a3 (o9 cs.length) hl
  have hi1:=Bj cs.length (by omega)
  have hil:=o8 cs.length
  repeat' ((first | refine F3 ⟨[(0, .ref 0 0),(2, .ref 1 0),(3, .ref 8 0),(4, .i k)],9,[(0,some (.box [.sl 1 (l.map S6), .i (k8 l a3 (o9 cs.length)).2])),(1,some (.box [.v (.slice none 0 0), .v (.slice none 0 0)])),(6,some (.row VX 2 0 [O7 (H1,c1),O7 (DU,c2)])),(7,some (.row Jl 7 0 ((cs ++ [(k8 l a3 (o9 cs.length)).1]).map L5))),(8,some (.box [.row 6 0 2, .row 7 0 (cs ++ [(k8 l a3 (o9 cs.length)).1]).length]))]⟩ ?_ ?_ | refine B0 hi1 ?_ | (refine G2 ?_ ?_;(show 1 + (M4 cs.length).length ≤ _;omega)) | refine ⟨C3 [0] [0] hmea rfl rfl rfl rfl rfl ⟨rfl,trivial⟩ rfl rfl rfl rfl rfl ?_⟩ |refine A1 ?_|refine S1 ?_|refine Z1 ?_|refine Z2 ?_|(refine And.intro ?_ ?_<;>intro h<;>try first|(exfalso;omega)|exact absurd rfl h)|refine Z3 ?_|refine Z4 ?_|intro el hel hbB|intro el hel|intro ex|refine Z5 ?_|(refine A8 ?_ ?_;exact ⟨by kernel_rfl,by decide⟩)|refine A7 ?_ ?_|exact A6|refine A3 ?_ ?_|exact A2|(refine A0 ?_ ?_ ?_;kernel_rfl;kernel_rfl)) <;> (try (conv=>whnf)))
  all_goals first
   | exact A5 h0 rfl ⟨rfl,rfl,rfl,rfl,trivial⟩ ⟨rfl,rfl,⟨_,rfl⟩,⟨_,congrArg (H4.row Jl 7 _) (by rw [List.map_append];rfl)⟩,congrArg (fun z=>H4.box [.row 6 0 2, .row 7 0 z]) (by rw [List.length_append];rfl),trivial⟩ rfl rfl rfl
   | (obtain ⟨k',rfl⟩:∃ k',k = k' + 1:=⟨k - 1,by omega⟩
      exact ⟨(k',cs ++ [(k8 l a3 (o9 cs.length)).1],(k8 l a3 (o9 cs.length)).2),⟨by dsimp only;omega,by dsimp only;rw [List.length_append,List.length_singleton];omega,hI⟩,by dsimp only;omega,A5 h0 rfl ⟨rfl,rfl,rfl,congrArg (fun z=>some (AV.i z)) (by dsimp only;omega),trivial⟩ ⟨rfl,rfl,⟨_,rfl⟩,⟨_,rfl⟩,rfl,trivial⟩ rfl rfl rfl⟩)
   | (obtain rfl:k = 0:=by omega
      rw [hI]
      exact D0 (rvs:=[.cell 2 41]) (vs:=[_]) ⟨1,_,_,rfl,rfl,inferInstance,rfl,rfl,trivial⟩ rfl rfl (B8 (FV 1 6 h0 rfl rfl) (B8 (FV 2 7 h0 rfl rfl) (A5 h0 rfl ⟨rfl,trivial⟩ ⟨rfl,⟨_,rfl⟩,⟨_,rfl⟩,trivial⟩ rfl rfl rfl))) rfl)
end Go.Proofs.YthkklceofokkmaaGreatDoor
