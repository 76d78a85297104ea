/- Chapter 8: how the program reads declarations, in plain terms. -/
import Derived.Test.YthkklceofokkmaaGreatDoorBXs
import Derived.Lib.AtoiAll
import Derived.Test.YthkklceofokkmaaGreatDoorBAvTy
import Derived.Test.YthkklceofokkmaaGreatDoorBE3
import Derived.Test.YthkklceofokkmaaGreatDoorBB13
import Derived.Test.YthkklceofokkmaaGreatDoorBSx
import Derived.Test.YthkklceofokkmaaGreatDoorBB12
import Derived.Test.YthkklceofokkmaaGreatDoorBB7
import Derived.Test.YthkklceofokkmaaGreatDoorBB4
import Derived.Test.YthkklceofokkmaaGreatDoorBCd1
set_option linter.unusedVariables false
set_option linter.unnecessarySimpa false
set_option linter.unusedSimpArgs false
namespace Go.Proofs.YthkklceofokkmaaGreatDoor
open Go Go.Av
attribute [local irreducible] E5 B7 E6 E7 DQ E8 F0 St.le B3 B5
set_option maxRecDepth 100000
abbrev DX:List UInt8:=[119,104,101,114,101]
abbrev T5:List UInt8:=[111,102]
abbrev Es:List UInt8:=[111,110]
abbrev Db:List UInt8:=[98,121]
abbrev u9:List UInt8:=[115,117,109]
abbrev Gl:List UInt8:=[115,101,101,100]
abbrev BW:List UInt8:=[101,118,101,110,116]
abbrev Hu:List UInt8:=[116,97,98,108,101]
abbrev Hv:List UInt8:=[109,111,100,101,108]
abbrev Hw:List UInt8:=[99,117,114,118,101]
abbrev Px:List UInt8:=[112,114,111,106,101,99,116]
abbrev Py:List UInt8:=[115,111,117,114,99,101]
abbrev Hx:List UInt8:=[115,97,109,112,108,101]
def J7 (z:List UInt8):Int × Bool:=match Lib.atoiAll z with
 | .ok n=>(n,decide (z.length ≤ 15 ∧ 0 ≤ n ∧ Lib.itoa n = z))
 | Lib.NumEnd.syntax=>(0,false)
 | .range=>(Lib.atoiSat z,false)
def Q6 (w:List UInt8):Bool:=decide (¬ w = [] ∧ ¬ w = DX)
abbrev E2 (ws:List (List UInt8)) (i:Nat):List UInt8:=ws.getD i []
def Hy (d:F4) (w:List (List UInt8)):F4 × Bool :=
 if ¬ w.length = 6 ∨ ¬ E2 w 2 = T5 ∨ ¬ E2 w 4 = Gl then (d,false)
 else (⟨d.prj,d.src,d.coh,(J7 (E2 w 1)).1,(J7 (E2 w 3)).1,(J7 (E2 w 5)).1,d.qs⟩,(J7 (E2 w 1)).2 && (J7 (E2 w 3)).2 && (J7 (E2 w 5)).2)
def L6 (s:B2) (d:F4) (n:Int) (t:List UInt8):F4 × Bool :=
 if n = 1 ∨ n = 2 then
  if ¬ (E1 [32] t).length = 2 ∨ Q6 (E2 (E1 [32] t) 1) = false then (d,false)
  else if n = 1 then (⟨E2 (E1 [32] t) 1,d.src,d.coh,d.part,d.of,d.seed,d.qs⟩,decide (E2 (E1 [32] t) 0 = Px))
  else (⟨d.prj,E2 (E1 [32] t) 1,d.coh,d.part,d.of,d.seed,d.qs⟩,decide (E2 (E1 [32] t) 0 = Py))
 else if n = 3 then
  if (C7 BT t).2 = false then (d,false)
  else (⟨d.prj,d.src,(V0 s (C7 BT t).1).1,d.part,d.of,d.seed,d.qs⟩,decide ((V0 s (C7 BT t).1).2 = 0))
 else if E2 (E1 [32] t) 0 = Hx then Hy d (E1 [32] t) else (d,false)
def v6 (s:B2):List (List UInt8) → List Int
 | []=>[]
 | w :: r=>if J3 s w < 0 then [] else J3 s w :: v6 s r
def BX (s:B2) (l:List (List UInt8)):Bool:=l.any fun w=>decide (J3 s w < 0)
def I9 (s:B2) (l:List (List UInt8)):List Int × Bool:=if BX s l = true then ([],false) else (v6 s l,decide (0 < l.length))
def LK (s:B2) (w:List UInt8):Pk:=⟨J3 s (w.takeWhile (B6 47)),(J7 ((w.dropWhile (B6 47)).drop 1)).1⟩
def r8 (s:B2) (w:List UInt8):Bool:=decide (J3 s (w.takeWhile (B6 47)) < 0) || !(J7 ((w.dropWhile (B6 47)).drop 1)).2
def Z0 (s:B2):List (List UInt8) → List Pk
 | []=>[]
 | w :: r=>if r8 s w = true then [] else LK s w :: Z0 s r
def Gm (s:B2) (q:D3) (m:Int) (l:List (List UInt8)):D3 × Bool:=(⟨q.name,1,q.flt,Z0 s l,m,q.trms,q.evt⟩,decide (1 ≤ l.length ∧ l.length ≤ 3) && !(l.any (r8 s)))
def BZ (s:B2) (w:List (List UInt8)) (q:D3):D3 × Bool :=
 if w.length < 3 ∨ ¬ E2 w 1 = Db then (⟨q.name,1,q.flt,q.dims, -1,q.trms,q.evt⟩,false)
 else if 2 ≤ (w.drop 2).length ∧ E2 (w.drop 2) ((w.drop 2).length - 2) = u9 then
  if (I9 s ((w.drop 2).drop ((w.drop 2).length - 1))).2 = false then (⟨q.name,1,q.flt,q.dims, -1,q.trms,q.evt⟩,false)
  else Gm s q ((I9 s ((w.drop 2).drop ((w.drop 2).length - 1))).1.getD 0 0) ((w.drop 2).take ((w.drop 2).length - 2))
 else Gm s q (-1) (w.drop 2)
def Ba (s:B2) (w:List (List UInt8)) (q:D3):D3 × Bool :=
 if w.length < 5 ∨ ¬ E2 w 1 = T5 ∨ ¬ E2 w 3 = Es then (⟨q.name,2,q.flt,q.dims,q.mea,q.trms,q.evt⟩,false)
 else if (I9 s ((w.take 3).drop 2)).2 = false ∨ (I9 s (w.drop 4)).2 = false ∨ 3 < (I9 s (w.drop 4)).1.length then (⟨q.name,2,q.flt,q.dims,q.mea,q.trms,q.evt⟩,false)
 else (⟨q.name,2,q.flt,q.dims,(I9 s ((w.take 3).drop 2)).1.getD 0 0,(I9 s (w.drop 4)).1,q.evt⟩,true)
def Bb (s:B2) (t:List UInt8) (q:D3):D3 × Bool :=
 if ¬ (K8 [32] 4 t).length = 5 ∨ ¬ E2 (K8 [32] 4 t) 1 = T5 ∨ ¬ E2 (K8 [32] 4 t) 3 = BW then (⟨q.name,3,q.flt,q.dims,q.mea,q.trms,q.evt⟩,false)
 else if (I9 s (((K8 [32] 4 t).take 3).drop 2)).2 = false then (⟨q.name,3,q.flt,q.dims,q.mea,q.trms,q.evt⟩,false)
 else (⟨q.name,3,q.flt,q.dims,(I9 s (((K8 [32] 4 t).take 3).drop 2)).1.getD 0 0,q.trms,(V0 s (E2 (K8 [32] 4 t) 4)).1⟩,decide ((V0 s (E2 (K8 [32] 4 t) 4)).2 = 0))
def H3 (t:List UInt8):List UInt8:=(t.dropWhile (B6 32)).drop 1
def H8 (t:List UInt8):Int:=Lib.lastIndex (H3 t) J1
def E4 (t:List UInt8):List UInt8:=(H3 t).take (H8 t).toNat
def V1 (s:B2) (t:List UInt8):A4 × Int:=V0 s ((H3 t).drop ((H8 t).toNat + 7))
def DN (s:B2) (t:List UInt8):D3:=⟨E2 (E1 [32] (E4 t)) 0,0,(V1 s t).1,[],0,[],zX⟩
def Hz (s:B2) (t:List UInt8):D3 × Bool :=
 if t.takeWhile (B6 32) = Hu then BZ s (E1 [32] (E4 t)) (DN s t)
 else if t.takeWhile (B6 32) = Hv then Ba s (E1 [32] (E4 t)) (DN s t)
 else if t.takeWhile (B6 32) = Hw then Bb s (E4 t) (DN s t)
 else (DN s t,false)
def DY (s:B2) (d:F4) (t:List UInt8):F4 × Bool :=
 if t.dropWhile (B6 32) = [] ∨ H8 t < 0 then (d,false)
 else if ¬ (V1 s t).2 = 0 ∨ Q6 (E2 (E1 [32] (E4 t)) 0) = false then (d,false)
 else (⟨d.prj,d.src,d.coh,d.part,d.of,d.seed,d.qs ++ [(Hz s t).1]⟩,(Hz s t).2)
def l6 (s:B2) (d:F4) (n:Nat) (t:List UInt8):F4 × Bool:=if n ≤ 4 then L6 s d n t else DY s d t
def zD:F4:=⟨[],[],zX,0,0,0,[]⟩
def Y6 (s:B2):Nat → F4 → Nat → List UInt8 → F4 × Int × Int
 | 0,_,n,_=>(zD,n,11)
 | f + 1,d,n,t =>
   if t = [] then (if n ≤ 4 then (zD,n,11) else if U8 s d = 0 then (d,0,0) else (zD,0,U8 s d))
   else if t.dropWhile (B6 10) = [] ∨ (l6 s d n (t.takeWhile (B6 10))).2 = false then (zD,n,11)
   else Y6 s f (l6 s d n (t.takeWhile (B6 10))).1 (n + 1) ((t.dropWhile (B6 10)).drop 1)
def l8 (s:B2) (t:List UInt8):F4 × Int × Int :=
 if ¬ C8 s = 0 then (zD,0,C8 s) else if 20000 < t.length then (zD,0,1) else Y6 s (t.length + 1) zD 1 t
end Go.Proofs.YthkklceofokkmaaGreatDoor
namespace Go.Av
open Go Go.RowKit
theorem Pz {P:Program} {f m0 m1 m2:Nat} {hp0 hp1 hp2:Hp} {args:List AV} {r r2:AV} (h:B5 P f m0 hp0 args m1 hp1 r) (hm:Nat.ble m0 m1 = true) (hle:∀ E:Env,E.n0 = m0 → St.le E 1 ⟨[(0,r)],m1,hp1⟩ ⟨[(0,r2)],m2,hp2⟩):B5 P f m0 hp0 args m2 hp2 r2:=by
 refine ⟨h.1,fun X θ w vs hX htab hbk hl hvs=>?_⟩
 refine Calls.mono (h.2 X θ w vs hX htab hbk hl hvs) ?_
 rintro e w' ⟨⟨v,θ',rfl,hv,hbk',hown,hθ⟩,hos,htape,hout,hsize,hblock⟩
 have sat:AH ⟨w,X,owned θ hp0,θ,m0,htab⟩ 1 ⟨[(0,r)],m1,hp1⟩ { tmps:=#[v],defers:=[] } w':=by
  refine ⟨θ',rfl,rfl,⟨hos,htape,hout,hsize,hblock⟩,fun s x hs=>?_,hbk'.owns,hbk'.apart,fun i b k hi hk=>⟨hbk'.fresh i b k hi hk,hown i b k hi hk⟩,hX,⟨Nat.ble_eq ▸ hm,hθ⟩⟩
  rw [H5] at hs
  split at hs
  ·rename_i e0
   subst e0
   cases hs
   exact hv
  ·cases hs
 obtain ⟨θ2,hs⟩:=hle _ rfl _ _ sat
 have hr:=hs.slots 0 r2 rfl
 exact ⟨⟨v,θ2,rfl,hr,⟨hs.owns,hs.apart,fun i b k hi hk=>(hs.mine i b k hi hk).1⟩,fun i b k hi hk=>(hs.mine i b k hi hk).2,hs.base.2⟩,hs.fr.os,hs.fr.tape,hs.fr.output,hs.fr.size,hs.fr.block⟩
end Go.Av
namespace Go.Proofs.YthkklceofokkmaaGreatDoor
open Go Go.Av
attribute [local irreducible] E5 B7 E6 E7 DQ E8 F0 St.le B3 B5
set_option maxRecDepth 100000
theorem IA (l:List UInt8) (a:Nat) (hl:l.length ≤ 400):B5 Tryz.prog 10 1 (D9 l a) [.ref 0 0] 1 (D9 l (FF l a).2) (sA (FF l a).1) :=
 Pz (Xk l a hl) rfl fun E h0=>A5 h0 rfl ⟨rfl,trivial⟩ ⟨rfl,trivial⟩ rfl rfl rfl
end Go.Proofs.YthkklceofokkmaaGreatDoor
namespace Go.Proofs.YthkklceofokkmaaGreatDoor
open Go Go.Av
attribute [local irreducible] E5 B7 E6 E7 DQ E8 F0 St.le B3 B5
set_option maxRecDepth 100000
theorem Fk (n lo hi:Int):B3 Tryz.prog 121 [.i n, .i lo, .i hi] (.b (decide (lo ≤ n ∧ n ≤ hi))):=by
 refine F7 Tryz.func121 15 fun hrd E h0=>?_
 clear hrd
 repeat' ((first|refine A1 ?_|refine S1 ?_|refine Z1 ?_|refine Z2 ?_|(refine And.intro ?_ ?_<;>intro h<;>try first|(exfalso;omega)|exact absurd rfl h)|refine Z3 ?_|refine Z4 ?_|intro el hel hbB|intro el hel|intro ex|refine Z5 ?_|(refine A8 ?_ ?_;exact ⟨by kernel_rfl,by decide⟩)|refine A7 ?_ ?_|exact A6|refine A3 ?_ ?_|exact A2|(refine A0 ?_ ?_ ?_;kernel_rfl;kernel_rfl)) <;> (try (conv=>whnf)))
 all_goals first
  | exact A9 rfl (congrArg AV.b (decide_eq_true (by omega)).symm)
  | exact A9 rfl (congrArg AV.b (decide_eq_false (by omega)).symm)
  | exact A9 rfl (congrArg AV.b (by simp only [*,true_and]))
def Gn (ws:List Int) (k:Nat):Prop:=k ≤ ws.length ∧ ((k = 0) ∨ (0 < k ∧ 1 ≤ ws.getD (k - 1) 0 ∧ f5 ws = Fb (ws.getD (k - 1) 0) (ws.drop k)))
theorem Gn.wat {ws:List Int} {k:Nat} (h:Gn ws k):CU ws k (if k = 0 then 1 else ws.getD (k - 1) 0):=by
 refine ⟨h.1,?_⟩
 rcases h.2 with h2 | h2
 ·left;rw [if_pos h2];exact ⟨h2,rfl⟩
 ·right;rw [if_neg (by omega)];exact h2
theorem Gn.of {ws:List Int} {k:Nat} {w:Int} (hw:ws[k]? = some w) (h:CU ws (k + 1) w):Gn ws (k + 1):=by
 refine ⟨h.1, .inr ?_⟩
 rcases h.2 with h2 | h2
 ·omega
 ·rw [Nat.add_sub_cancel,j8 hw];exact h2
theorem YH {α:Type} {ws:List α} {k:Nat} {q d:α} (h:0 < (k:Int)) (hq:ws[((k:Int) - 1).toNat]? = some q):ws.getD (k - 1) d = q:=j8 (by rw [← hq];congr 1;omega)
theorem Gn.prev {ws:List Int} {k:Nat} {q:Int} (h:Gn ws k) (h0:0 < (k:Int)) (hq:ws[((k:Int) - 1).toNat]? = some q):CU ws k q ∧ 1 ≤ q:=by
 have h1:=h.wat
 rw [if_neg (by omega),YH h0 hq] at h1
 exact ⟨h1,h1.pos⟩
set_option maxHeartbeats 4000000 in
theorem Ni (c:G9):B3 Tryz.prog 122 [FD c] (.i (meaE c)):=by
 have hin1:=Fk c.low (-1000000) 1000000
 have hin2:=Fk c.high (-1000000) 1000000
 refine F7 Tryz.func122 79 fun hrd E h0=>?_
 have hlen:c.widths.length ≤ 9223372036854775807:=by
  have:=((hrd (FD c) (by simp)).agg (.sl 1 (c.widths.map wA)) (by simp)).sl
  simpa using this
 clear hrd
 repeat' ((first | refine B0 hin1 ?_ | refine B0 hin2 ?_ |refine A1 ?_|refine S1 ?_|refine Z1 ?_|refine Z2 ?_|(refine And.intro ?_ ?_<;>intro h<;>try first|(exfalso;omega)|exact absurd rfl h)|refine Z3 ?_|refine Z4 ?_|intro el hel hbB|intro el hel|intro ex|refine Z5 ?_|(refine A8 ?_ ?_;exact ⟨by kernel_rfl,by decide⟩)|refine A7 ?_ ?_|exact A6|refine A3 ?_ ?_|exact A2|(refine A0 ?_ ?_ ?_;kernel_rfl;kernel_rfl)) <;> (try (conv=>whnf)))
 all_goals first
  | (refine A9 rfl (congrArg AV.i ?_);rw [meaE,if_pos (by omega)];done)
  | (refine A9 rfl (congrArg AV.i ?_);rw [meaE,if_neg (by omega),if_pos (by omega)];done)
  | skip
 have hm:meaE c = if f5 c.widths = true then 0 else 2:=by rw [meaE,if_neg (by omega),if_neg (by omega)]
 have hne:c.widths.length ≠ 0:=by omega
 rw [hm]
 refine D8 (ι:=Nat) (fun k=>⟨[(1, .ref 0 0),(3, .i k)],1,[(0,some (.box (L5 c)))]⟩) (fun k=>Gn c.widths k) (fun k=>c.widths.length - k) 0 ⟨Nat.zero_le _, .inl rfl⟩ (A5 h0 rfl ⟨rfl,rfl,trivial⟩ ⟨rfl,trivial⟩ rfl rfl rfl) (fun k hI=>?_)
 have hk:=hI.1
 repeat' ((first | (refine G2 ?_ ?_;(have:=(hI.prev (by assumption) hel).2;omega)) |refine A1 ?_|refine S1 ?_|refine Z1 ?_|refine Z2 ?_|(refine And.intro ?_ ?_<;>intro h<;>try first|(exfalso;omega)|exact absurd rfl h)|refine Z3 ?_|refine Z4 ?_|intro el hel hbB|intro el hel|intro ex|refine Z5 ?_|(refine A8 ?_ ?_;exact ⟨by kernel_rfl,by decide⟩)|refine A7 ?_ ?_|exact A6|refine A3 ?_ ?_|exact A2|(refine A0 ?_ ?_ ?_;kernel_rfl;kernel_rfl)) <;> (try (conv=>whnf)))
 all_goals first
  | exact ⟨k + 1,Gn.of hel (hI.wat.first hel (by omega) (by omega)),by omega,A5 h0 rfl ⟨rfl,rfl,trivial⟩ ⟨rfl,trivial⟩ rfl rfl rfl⟩
  | exact A9 rfl (congrArg AV.i (by rw [hI.wat.bad0 hel (by omega) (by omega)];rfl))
  | exact A9 rfl (congrArg AV.i (by rw [(hI.prev (by assumption) hel).1.bad (by assumption) (by omega) (fun hx=>by first | exact absurd hx.2.1 (by assumption) | omega)];rfl))
  | exact ⟨k + 1,Gn.of (by assumption) ((hI.prev (by assumption) hel).1.next (by assumption) (by omega) (by omega) (Classical.byContradiction (by assumption)) (by omega)),by omega,A5 h0 rfl ⟨rfl,rfl,trivial⟩ ⟨rfl,trivial⟩ rfl rfl rfl⟩
  | exact A9 rfl (congrArg AV.i (by rw [hI.wat.done (by assumption) hne];rfl))
theorem YI {s:B2} {i:Nat} {c:G9} (hn:C9 c.name = true) (hd:DT s i c = true):10 = colE s i c:=by
 rw [colE,if_neg (by rw [hn];decide),if_pos hd]
theorem IB {s:B2} {i:Nat} {c:G9} {e:Int} (hn:C9 c.name = true) (hd:DT s i c = false) (hk:kindE s i c = e) (he:e ≠ 0):e = colE s i c:=by
 rw [colE,if_neg (by rw [hn];decide),if_neg (by rw [hd];decide),hk,if_neg he]
theorem NM {s:B2} {i:Nat} {c:G9} {b:Bool} (hn:C9 c.name = true) (hd:DT s i c = false) (hk:kindE s i c = 0) (hu:Dk c = b):(if b = true then 0 else 11) = colE s i c:=by
 unfold colE
 simp only [hn,hd,hk,hu,if_true,if_false,Bool.true_eq_false,Bool.false_eq_true]
set_option maxHeartbeats 4000000 in
theorem QA (s:B2) (i:Nat) (c:G9) (hc:s.cols[i]? = some c) (hi2:i < 9223372036854775807):B3 Tryz.prog 73 [sA s, .i i] (.i (colE s i c)):=by
 have hi:=Q0 hc
 have hin1:=Fk c.kind 1 3
 have hin2:=Fk c.lst 0 ((s.lists.length:Int) - 1)
 have hmea:=Ni c
 generalize hm:meaE c = m at hmea
 refine F7 Tryz.func73 98 fun hrd E h0=>?_
 obtain ⟨hl1,hl2,hl3⟩:=Cl (s:=s) (hrd _ (by simp))
 clear hrd
 repeat' ((first | (refine B1 (x:=c) (by simpa using hc) (by omega) ?_) | refine B0 (Al _) ?_ |refine A1 ?_|refine S1 ?_|refine Z1 ?_|refine Z2 ?_|(refine And.intro ?_ ?_<;>intro h<;>try first|(exfalso;omega)|exact absurd rfl h)|refine Z3 ?_|refine Z4 ?_|intro el hel hbB|intro el hel|intro ex|refine Z5 ?_|(refine A8 ?_ ?_;exact ⟨by kernel_rfl,by decide⟩)|refine A7 ?_ ?_|exact A6|refine A3 ?_ ?_|exact A2|(refine A0 ?_ ?_ ?_;kernel_rfl;kernel_rfl)) <;> (try (conv=>whnf)))
 all_goals first
  | (refine A9 rfl (congrArg AV.i ?_);rw [colE,if_pos h];done)
  | skip
 have hn:=h
 clear h
 refine D8 (ι:=Nat) (fun k=>⟨[(1, .i i),(2, .ref 0 0),(5, .ref 1 0),(6, .i k)],2,[(0,some (.box (sL s))),(1,some (.box (L5 c)))]⟩) (fun k=>k ≤ i ∧ X9 (fun x=>decide (x.name = c.name)) (s.cols.take i) k) (fun k=>i - k) 0 ⟨Nat.zero_le _,X9.zero _ _⟩ (A5 h0 rfl ⟨rfl,rfl,rfl,rfl,trivial⟩ ⟨rfl,rfl,trivial⟩ rfl rfl rfl) (fun k hI=>?_)
 obtain ⟨hk,hI⟩:=hI
 have hti:(s.cols.take i).length = i:=by rw [List.length_take];omega
 have htk:∀ el,(k:Int) < i → s.cols[k]? = some el → (s.cols.take i)[k]? = some el:=fun el h1 h2=>by rw [List.getElem?_take_of_lt (by omega)];exact h2
 repeat' ((first | refine B0 hin1 ?_ | refine B0 hin2 ?_ | refine B0 hmea ?_ |refine A1 ?_|refine S1 ?_|refine Z1 ?_|refine Z2 ?_|(refine And.intro ?_ ?_<;>intro h<;>try first|(exfalso;omega)|exact absurd rfl h)|refine Z3 ?_|refine Z4 ?_|intro el hel hbB|intro el hel|intro ex|refine Z5 ?_|(refine A8 ?_ ?_;exact ⟨by kernel_rfl,by decide⟩)|refine A7 ?_ ?_|exact A6|refine A3 ?_ ?_|exact A2|(refine A0 ?_ ?_ ?_;kernel_rfl;kernel_rfl)) <;> (try (conv=>whnf)))
 all_goals first
  | (refine A9 rfl (congrArg AV.i ?_);exact YI hn (hI.hit (htk _ (by assumption) hel) (decide_eq_true (by assumption))).symm)
  | exact ⟨k + 1,⟨by omega,hI.step (htk _ (by assumption) hel) (decide_eq_false (by assumption))⟩,by omega,A5 h0 rfl ⟨rfl,rfl,rfl,rfl,trivial⟩ ⟨rfl,rfl,trivial⟩ rfl rfl rfl⟩
  | skip
 all_goals
  have hd:DT s i c = false:=(hI.done (by omega)).symm
  refine A9 rfl (congrArg AV.i ?_)
  clear hI htk hti hin1 hin2 hmea hl3 h0 E hc
 all_goals first
  | exact IB (e:=4) hn hd (by unfold kindE;simp only [hm];(repeat' split) <;> first | rfl | omega) (by decide)
  | exact IB (e:=5) hn hd (by unfold kindE;simp only [hm];(repeat' split) <;> first | rfl | omega) (by decide)
  | exact IB (e:=m) hn hd (by unfold kindE;simp only [hm];(repeat' split) <;> first | rfl | omega) (by assumption)
  | exact NM (b:=true) hn hd (by unfold kindE;simp only [hm];(repeat' split) <;> first | rfl | omega) (decide_eq_true ⟨by omega,by first | exact .inl (by omega) | exact .inr ⟨by omega,by omega,by omega,by assumption⟩⟩)
  | exact NM (b:=false) hn hd (by unfold kindE;simp only [hm];(repeat' split) <;> first | rfl | omega) (decide_eq_false (fun hx=>by
    obtain ⟨hx1,hx2⟩:=hx
    rcases hx2 with h3 | ⟨h4,h5,h6,h7⟩
    ·omega
    ·first | omega | exact absurd (h.symm.trans h7) (by decide)))
theorem YJ {ls:List CL} {k:Nat} {el:CL} (h:chk el.1 el.2 = 0) (hd:true = (ls.take k).any fun x=>decide (x.1 = el.1)):a8 ls k el = 10:=by rw [a8,if_pos h,if_pos hd.symm]
theorem bG {ls:List CL} {k:Nat} {el:CL} (h:chk el.1 el.2 = 0) (hd:false = (ls.take k).any fun x=>decide (x.1 = el.1)):a8 ls k el = 0:=by rw [a8,if_pos h,if_neg (by rw [← hd];decide)]
set_option maxHeartbeats 4000000 in
theorem Af (s:B2):B3 Tryz.prog 36 [sA s] (.i (C8 s)):=by
 refine F7 Tryz.func36 77 fun hrd E h0=>?_
 obtain ⟨hl1,hl2,hl3⟩:=Cl (s:=s) (hrd _ (by simp))
 clear hrd
 repeat' ((first|refine A1 ?_|refine S1 ?_|refine Z1 ?_|refine Z2 ?_|(refine And.intro ?_ ?_<;>intro h<;>try first|(exfalso;omega)|exact absurd rfl h)|refine Z3 ?_|refine Z4 ?_|intro el hel hbB|intro el hel|intro ex|refine Z5 ?_|(refine A8 ?_ ?_;exact ⟨by kernel_rfl,by decide⟩)|refine A7 ?_ ?_|exact A6|refine A3 ?_ ?_|exact A2|(refine A0 ?_ ?_ ?_;kernel_rfl;kernel_rfl)) <;> (try (conv=>whnf)))
 all_goals first
  | exact A9 rfl (congrArg AV.i (by rw [C8,if_pos (by omega)]))
  | skip
 have hs:C8 s = if I2 (a8 s.lists) 0 s.lists = 0 then (if s.cols.head?.map (·.kind) = some 1 then I2 (colE s) 0 s.cols else 7) else I2 (a8 s.lists) 0 s.lists:=by rw [C8,if_neg (by omega)]
 rw [hs]
 refine D8 (ι:=Nat) (fun k=>⟨[(1, .ref 0 0),(3, .i k)],1,[(0,some (.box (sL s)))]⟩) (fun k=>L0 (a8 s.lists) s.lists k) (fun k=>s.lists.length - k) 0 (L0.zero _ _) (A5 h0 rfl ⟨rfl,rfl,trivial⟩ ⟨rfl,trivial⟩ rfl rfl rfl) (fun k hI=>?_)
 have hk:=hI.1
 repeat' ((first | refine B0 (JH _ _ (hl3 _ (List.mem_of_getElem? hel))) ?_ |refine A1 ?_|refine S1 ?_|refine Z1 ?_|refine Z2 ?_|(refine And.intro ?_ ?_<;>intro h<;>try first|(exfalso;omega)|exact absurd rfl h)|refine Z3 ?_|refine Z4 ?_|intro el hel hbB|intro el hel|intro ex|refine Z5 ?_|(refine A8 ?_ ?_;exact ⟨by kernel_rfl,by decide⟩)|refine A7 ?_ ?_|exact A6|refine A3 ?_ ?_|exact A2|(refine A0 ?_ ?_ ?_;kernel_rfl;kernel_rfl)) <;> (try (conv=>whnf)))
 all_goals first
  | (refine A9 rfl (congrArg AV.i ?_)
     have he:a8 s.lists k el = chk el.1 el.2:=by rw [a8,if_neg (by assumption)]
     rw [← hI.hit hel (by rw [he];assumption),he,if_neg (by assumption)];done)
  | (have hd:=hI.done (by assumption)
     refine A9 rfl (congrArg AV.i ?_)
     rw [if_pos hd,if_neg]
     intro hx
     rw [List.head?_eq_getElem?] at hx
     first
      | (rw [show s.cols[0]? = none from List.getElem?_eq_none (by omega)] at hx;cases hx)
      | (have hel':s.cols[0]? = some el:=hel
         rw [hel'] at hx
         have:=Option.some.inj hx
         exact absurd this (by assumption)))
  | skip
 ·have hc0:chk el.1 el.2 = 0:=Classical.byContradiction (by assumption)
  refine D8 (ι:=Nat) (fun j=>⟨[(1, .ref 0 0),(3, .i k),(5, .i j)],1,[(0,some (.box (sL s)))]⟩) (fun j=>j ≤ k ∧ X9 (fun x=>decide (x.1 = el.1)) (s.lists.take k) j) (fun j=>k - j) 0 ⟨Nat.zero_le _,X9.zero _ _⟩ (A5 h0 rfl ⟨rfl,rfl,rfl,trivial⟩ ⟨rfl,trivial⟩ rfl rfl rfl) (fun j hJ=>?_)
  obtain ⟨hj,hJ⟩:=hJ
  have htk:∀ x,(j:Int) < k → s.lists[j]? = some x → (s.lists.take k)[j]? = some x:=fun x h1 h2=>by rw [List.getElem?_take_of_lt (by omega)];exact h2
  have hel0:=hel
  have hti:(s.lists.take k).length = k:=by rw [List.length_take];omega
  repeat' ((first | (refine B1 (x:=el) hel0 (by omega) ?_) |refine A1 ?_|refine S1 ?_|refine Z1 ?_|refine Z2 ?_|(refine And.intro ?_ ?_<;>intro h<;>try first|(exfalso;omega)|exact absurd rfl h)|refine Z3 ?_|refine Z4 ?_|intro el hel hbB|intro el hel|intro ex|refine Z5 ?_|(refine A8 ?_ ?_;exact ⟨by kernel_rfl,by decide⟩)|refine A7 ?_ ?_|exact A6|refine A3 ?_ ?_|exact A2|(refine A0 ?_ ?_ ?_;kernel_rfl;kernel_rfl)) <;> (try (conv=>whnf)))
  all_goals first
   | exact ⟨j + 1,⟨by omega,hJ.step (htk _ (by assumption) hel) (decide_eq_false (by assumption))⟩,by omega,A5 h0 rfl ⟨rfl,rfl,rfl,trivial⟩ ⟨rfl,trivial⟩ rfl rfl rfl⟩
   | (refine A9 rfl (congrArg AV.i ?_)
      have he:=YJ hc0 (hJ.hit (htk _ (by assumption) hel) (decide_eq_true (by assumption)))
      rw [← hI.hit hel0 (by rw [he];decide),he];rfl)
   | exact ⟨k + 1,hI.step hel0 (bG hc0 (hJ.done (by omega))),by omega,A5 h0 rfl ⟨rfl,rfl,trivial⟩ ⟨rfl,trivial⟩ rfl rfl rfl⟩
 have hd:=hI.done (by assumption)
 have hh:s.cols.head?.map (·.kind) = some 1:=by
  rw [List.head?_eq_getElem?]
  have hel':s.cols[0]? = some el:=hel
  rw [hel']
  exact congrArg some (Classical.byContradiction (by assumption))
 rw [if_pos hd,if_pos hh]
 refine D8 (ι:=Nat) (fun k=>⟨[(1, .ref 0 0),(6, .i k)],1,[(0,some (.box (sL s)))]⟩) (fun k=>L0 (colE s) s.cols k) (fun k=>s.cols.length - k) 0 (L0.zero _ _) (A5 h0 rfl ⟨rfl,rfl,trivial⟩ ⟨rfl,trivial⟩ rfl rfl rfl) (fun k hI=>?_)
 have hk:=hI.1
 have hcol:=fun (h:(k:Int) < s.cols.length)=>QA s k (s.cols[k]'(by omega)) (List.getElem?_eq_getElem (by omega)) (by omega)
 repeat' ((first | refine B0 (hcol (by assumption)) ?_ |refine A1 ?_|refine S1 ?_|refine Z1 ?_|refine Z2 ?_|(refine And.intro ?_ ?_<;>intro h<;>try first|(exfalso;omega)|exact absurd rfl h)|refine Z3 ?_|refine Z4 ?_|intro el hel hbB|intro el hel|intro ex|refine Z5 ?_|(refine A8 ?_ ?_;exact ⟨by kernel_rfl,by decide⟩)|refine A7 ?_ ?_|exact A6|refine A3 ?_ ?_|exact A2|(refine A0 ?_ ?_ ?_;kernel_rfl;kernel_rfl)) <;> (try (conv=>whnf)))
 all_goals first
  | exact ⟨k + 1,hI.step (List.getElem?_eq_getElem (by omega)) (Classical.byContradiction (by assumption)),by omega,A5 h0 rfl ⟨rfl,rfl,trivial⟩ ⟨rfl,trivial⟩ rfl rfl rfl⟩
  | exact A9 rfl (congrArg AV.i (hI.hit (List.getElem?_eq_getElem (by omega)) (by assumption)))
  | exact A9 rfl (congrArg AV.i (hI.done (by assumption)).symm)
end Go.Proofs.YthkklceofokkmaaGreatDoor
