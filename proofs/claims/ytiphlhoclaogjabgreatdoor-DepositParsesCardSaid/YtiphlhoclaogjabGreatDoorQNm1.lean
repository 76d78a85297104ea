/- Draws: values, rows and picks: the walks. -/
import Derived.Test.YtiphlhoclaogjabGreatDoorQB13
import Derived.Test.YtiphlhoclaogjabGreatDoorQSx
import Derived.Test.YtiphlhoclaogjabGreatDoorQAvTy
import Derived.Test.YtiphlhoclaogjabGreatDoorQE3
import Derived.Test.YtiphlhoclaogjabGreatDoorQB12
import Derived.Test.YtiphlhoclaogjabGreatDoorQB8
import Derived.Lib.ItoaNum
import Derived.Lib.AtoiAll
import Derived.Test.YtiphlhoclaogjabGreatDoorQSj
set_option linter.unusedVariables false
set_option linter.unnecessarySimpa false
set_option linter.unusedSimpArgs false
namespace Go.Proofs.YtiphlhoclaogjabGreatDoor
open Go Go.Av
attribute [local irreducible] D6 B8 D8 D7 DQ E0 E1 St.le B4 B9
set_option maxRecDepth 100000
theorem Xq {l:List UInt8} {a:Nat} {s:C4} {k:Int} {c:C5} (hca:I7 s k = c) (h:c.kind = 1):Y5 l a s k = (1 + ((C9 l a 60).1:Int),(C9 l a 60).2):=by unfold Y5;dsimp only;rw [hca,if_pos h]
theorem Xr {l:List UInt8} {a:Nat} {s:C4} {k:Int} {c:C5} (hca:I7 s k = c) (h1:¬ c.kind = 1) (h:c.kind = 2):Y5 l a s k = ((((Q0 s k).getD (C9 l a (Q0 s k).length).1 0:Nat):Int),(C9 l a (Q0 s k).length).2):=by unfold Y5;dsimp only;rw [hca,if_neg h1,if_pos h]
theorem Xs {l:List UInt8} {a:Nat} {s:C4} {k:Int} {c:C5} (hca:I7 s k = c) (h1:¬ c.kind = 1) (h2:¬ c.kind = 2) (h:c.opt = true) (h4:((C9 l a 4).1:Int) = 3):Y5 l a s k = ((-1099511627776),(C9 l a 4).2):=by unfold Y5;dsimp only;rw [hca,if_neg h1,if_neg h2,if_pos h,if_pos h4]
theorem Xt {l:List UInt8} {a:Nat} {s:C4} {k:Int} {c:C5} (hca:I7 s k = c) (h1:¬ c.kind = 1) (h2:¬ c.kind = 2) (h:c.opt = true) (h4:¬ ((C9 l a 4).1:Int) = 3):Y5 l a s k = (c.low + ((C9 l (C9 l a 4).2 (c.high - c.low + 1)).1:Int),(C9 l (C9 l a 4).2 (c.high - c.low + 1)).2):=by unfold Y5;dsimp only;rw [hca,if_neg h1,if_neg h2,if_pos h,if_neg h4]
theorem Xu {l:List UInt8} {a:Nat} {s:C4} {k:Int} {c:C5} (hca:I7 s k = c) (h1:¬ c.kind = 1) (h2:¬ c.kind = 2) (h:c.opt = false):Y5 l a s k = (c.low + ((C9 l a (c.high - c.low + 1)).1:Int),(C9 l a (c.high - c.low + 1)).2):=by unfold Y5;dsimp only;rw [hca,if_neg h1,if_neg h2,if_neg (by rw [h];exact Bool.false_ne_true)]
set_option maxHeartbeats 4000000 in
theorem PI (l:List UInt8) (a:Nat) (s:C4) (k:Nat) {c:C5} (hd:J9 s) (hc:s.cols[k]? = some c) (hl:l.length ≤ 400):B9 Tryz.prog 53 1 (s9 l a) [.ref 0 0,sA s, .i k] 1 (s9 l (Y5 l a s k).2) (.i (Y5 l a s k).1):=by
 have hca:I7 s k = c:=u1 (by simpa using hc)
 have hlt:=R6 hc
 have hln:=hd.lens
 have hm:¬ c.kind = 1 → ¬ c.kind = 2 → c.low ≤ c.high ∧ -4 ≤ c.low ∧ c.high ≤ 46:=by
  rcases hd.col hc with ⟨_,rfl⟩ | ⟨_,rfl | rfl⟩ | ⟨_,nm,hm⟩
  ·intro h;exact absurd rfl h
  ·intro _ h;exact absurd rfl h
  ·intro _ h;exact absurd rfl h
  ·have:=hm.low;have:=hm.high;omega
 have hlv:c.kind = 2 → B4 Tryz.prog 78 [sA s, .i k] (.sl 1 ((Q0 s k).map iA)):=fun h=>NG s k (by omega) (by simpa using hc) (hd.lvs hc h).1
 have hll:c.kind = 2 → (Q0 s k).length ≤ 10 ∧ (Q0 s k)[(C9 l a (Q0 s k).length).1]? = some ((Q0 s k).getD (C9 l a (Q0 s k).length).1 0):=by
  intro h
  obtain ⟨_,_,h1,h2⟩:=hd.lvs hc h
  have hn:=N7 l a (n:=(Q0 s k).length) (by omega)
  have:(C9 l a (Q0 s k).length).1 < (Q0 s k).length:=by omega
  rw [List.getD_eq_getElem?_getD,List.getElem?_eq_getElem this]
  exact ⟨h2,rfl⟩
 have r1:=k9 l a 1 60 hl (by omega) (by omega) (by omega)
 have r2:=fun (h1:¬ c.kind = 1) (h2:¬ c.kind = 2) (b:Nat)=>k9 l b c.low c.high hl (hm h1 h2).1 (by have:=hm h1 h2;omega) (by have:=hm h1 h2;omega)
 have r3:=Bj l a 4 hl (by omega)
 have r4:=t8 l a (Q0 s k).length hl
 refine J1 Tryz.func53 44 fun E h0=>?_
 repeat' ((first | (refine A3 (x:=c) hc (by omega) ?_) | (refine A3 (hll (by assumption)).2 (by omega) ?_) | refine B2 (hlv (by assumption)) ?_ | refine ⟨P5 [0] [0] r1 rfl rfl rfl rfl rfl ⟨rfl,trivial⟩ rfl rfl rfl rfl rfl ?_⟩ | refine ⟨P5 [0] [0] (r2 (by assumption) (by assumption) _) rfl rfl rfl rfl rfl ⟨rfl,trivial⟩ rfl rfl rfl rfl rfl ?_⟩ | refine ⟨P5 [0] [0] r3 rfl rfl rfl rfl rfl ⟨rfl,trivial⟩ rfl rfl rfl rfl rfl ?_⟩ | refine ⟨P5 [0] [0] r4 rfl rfl rfl rfl rfl ⟨rfl,trivial⟩ rfl rfl rfl rfl rfl ?_⟩ |refine A4 ?_|refine S1 ?_|refine Z1 ?_|refine Z2 ?_|(refine And.intro ?_ ?_<;>intro h<;>try first|(exfalso;omega)|exact absurd rfl h)|refine Z3 ?_|refine Z4 ?_|intro el hel hbB|intro el hel|intro ex|refine Z5 ?_|(refine A9 ?_ ?_;exact ⟨by kernel_rfl,by decide⟩)|refine A8 ?_ ?_|exact A7|refine A6 ?_ ?_|exact A5|(refine A0 ?_ ?_ ?_;kernel_rfl;kernel_rfl)) <;> (try (conv=>whnf)))
 all_goals first
  | (rw [Xq hca (by assumption)];exact D5 (B0 h0 rfl ⟨rfl,trivial⟩ ⟨rfl,trivial⟩ rfl rfl rfl))
  | (rw [Xr hca (by assumption) (by assumption)];exact D5 (B0 h0 rfl ⟨rfl,trivial⟩ ⟨rfl,trivial⟩ rfl rfl rfl))
  | (rw [Xs hca (by assumption) (by assumption) (by assumption) (by omega)];exact D5 (B0 h0 rfl ⟨rfl,trivial⟩ ⟨rfl,trivial⟩ rfl rfl rfl))
  | (rw [Xt hca (by assumption) (by assumption) (by assumption) (by omega)];exact D5 (B0 h0 rfl ⟨rfl,trivial⟩ ⟨rfl,trivial⟩ rfl rfl rfl))
  | (rw [Xu hca (by assumption) (by assumption) (by assumption)];exact D5 (B0 h0 rfl ⟨rfl,trivial⟩ ⟨rfl,trivial⟩ rfl rfl rfl))
set_option maxHeartbeats 4000000 in
theorem Ti (l:List UInt8) (a:Nat) (s:C4) (hd:J9 s) (hl:l.length ≤ 400):B9 Tryz.prog 22 1 (s9 l a) [.ref 0 0,sA s] 2 [(0,some (.box [.sl 1 (l.map T7), .i (T4 l a s).2])),(1,some (.row 3 1 0 ((T4 l a s).1.map wA)))] (.row 1 0 s.cols.length):=by
 have hln:=hd.lens
 refine J1 Tryz.func22 22 fun E h0=>?_
 repeat' ((first|refine A4 ?_|refine S1 ?_|refine Z1 ?_|refine Z2 ?_|(refine And.intro ?_ ?_<;>intro h<;>try first|(exfalso;omega)|exact absurd rfl h)|refine Z3 ?_|refine Z4 ?_|intro el hel hbB|intro el hel|intro ex|refine Z5 ?_|(refine A9 ?_ ?_;exact ⟨by kernel_rfl,by decide⟩)|refine A8 ?_ ?_|exact A7|refine A6 ?_ ?_|exact A5|(refine A0 ?_ ?_ ?_;kernel_rfl;kernel_rfl)) <;> (try (conv=>whnf)))
 refine C2 (ι:=Nat × List Int × Nat) (fun x=>⟨[(0, .ref 0 0),(3, .ref 1 0),(5, .row 2 0 x.1),(9, .i s.cols.length),(10, .i x.1)],3,[(0,some (.box [.sl 1 (l.map T7), .i x.2.2])),(1,some (.box (sL s))),(2,some (.row 3 1 0 (x.2.1.map wA)))]⟩)
  (fun x=>x.1 ≤ s.cols.length ∧ x.2.1.length = x.1 ∧ T4 l a s = rowFrom l s x.1 x.2 (s.cols.length - x.1)) (fun x=>s.cols.length - x.1) (0,[],a) ⟨by dsimp only;omega,rfl,rfl⟩
  (C3 (AL (d:=5) (e:=3) (sz:=1) rfl) (B0 h0 rfl ⟨rfl,rfl,rfl,rfl,rfl,trivial⟩ ⟨rfl,rfl,⟨0,rfl⟩,trivial⟩ rfl rfl rfl)) (fun x hI=>?_)
 obtain ⟨k,out,b⟩:=x
 obtain ⟨hk,hlen,hI⟩:=hI
 dsimp only at hk hlen hI ⊢
 have hv:=fun (h:(k:Int) < s.cols.length)=>PI l b s k hd (List.getElem?_eq_getElem (show k < s.cols.length by omega)) hl
 repeat' ((first | refine ⟨P5 [0] [0] (hv (by assumption)) rfl rfl rfl rfl rfl ⟨rfl,trivial⟩ rfl rfl rfl rfl rfl ?_⟩ |refine A4 ?_|refine S1 ?_|refine Z1 ?_|refine Z2 ?_|(refine And.intro ?_ ?_<;>intro h<;>try first|(exfalso;omega)|exact absurd rfl h)|refine Z3 ?_|refine Z4 ?_|intro el hel hbB|intro el hel|intro ex|refine Z5 ?_|(refine A9 ?_ ?_;exact ⟨by kernel_rfl,by decide⟩)|refine A8 ?_ ?_|exact A7|refine A6 ?_ ?_|exact A5|(refine A0 ?_ ?_ ?_;kernel_rfl;kernel_rfl)) <;> (try (conv=>whnf)))
 all_goals first
  | exact ⟨(k + 1,out ++ [(Y5 l b s k).1],(Y5 l b s k).2),⟨by dsimp only;omega,by dsimp only;rw [List.length_append,List.length_singleton,hlen],by rw [hI,show s.cols.length - k = (s.cols.length - (k + 1)) + 1 by omega];rfl⟩,by dsimp only;omega,B0 h0 rfl ⟨rfl,rfl,rfl,rfl,rfl,trivial⟩ ⟨rfl,rfl,⟨_,congrArg (C6.row 3 1 _) (by rw [List.map_append];rfl)⟩,trivial⟩ rfl rfl rfl⟩
  | (have e:T4 l a s = (out,b):=by rw [hI,show s.cols.length - k = 0 by omega];rfl
     have ek:k = s.cols.length:=by omega
     rw [e]
     exact D5 (C3 (Bf 1 2 h0 rfl rfl) (B0 h0 rfl ⟨congrArg (fun z:Nat=>some (AV.row 1 0 z)) ek,trivial⟩ ⟨rfl,⟨_,rfl⟩,trivial⟩ rfl rfl rfl)))
end Go.Proofs.YtiphlhoclaogjabGreatDoor
namespace Go.Av
open Go Go.RowKit
theorem Lz {P:Program} {f m0 m1 m2:Nat} {hp0 hp1 hp2:Hp} {args:List AV} {r r2:AV} (h:B9 P f m0 hp0 args m1 hp1 r) (hm:Nat.ble m0 m1 = true) (hle:∀ E:Env,E.n0 = m0 → St.le E 1 ⟨[(0,r)],m1,hp1⟩ ⟨[(0,r2)],m2,hp2⟩):B9 P f m0 hp0 args m2 hp2 r2:=by
 refine ⟨h.1,fun X θ w vs hX htab hbk hl hvs=>?_⟩
 refine Calls.mono (h.2 X θ w vs hX htab hbk hl hvs) ?_
 rintro e w' ⟨⟨v,θ',rfl,hv,hbk',hown,hθ⟩,hos,htape,hout,hsize,hblock⟩
 have sat:d9 ⟨w,X,owned θ hp0,θ,m0,htab⟩ 1 ⟨[(0,r)],m1,hp1⟩ { tmps:=#[v],defers:=[] } w':=by
  refine ⟨θ',rfl,rfl,⟨hos,htape,hout,hsize,hblock⟩,fun s x hs=>?_,hbk'.owns,hbk'.apart,fun i b k hi hk=>⟨hbk'.fresh i b k hi hk,hown i b k hi hk⟩,hX,⟨Nat.ble_eq ▸ hm,hθ⟩⟩
  rw [F7] at hs
  split at hs
  ·rename_i e0
   subst e0
   cases hs
   exact hv
  ·cases hs
 obtain ⟨θ2,hs⟩:=hle _ rfl _ _ sat
 have hr:=hs.slots 0 r2 rfl
 exact ⟨⟨v,θ2,rfl,hr,⟨hs.owns,hs.apart,fun i b k hi hk=>(hs.mine i b k hi hk).1⟩,fun i b k hi hk=>(hs.mine i b k hi hk).2,hs.base.2⟩,hs.fr.os,hs.fr.tape,hs.fr.output,hs.fr.size,hs.fr.block⟩
end Go.Av
namespace Go.Proofs.YtiphlhoclaogjabGreatDoor
open Go Go.Av
attribute [local irreducible] D6 B8 D8 D7 DQ E0 E1 St.le B4 B9
set_option maxRecDepth 100000
theorem RM (l:List UInt8) (a:Nat) (hl:l.length ≤ 400):B9 Tryz.prog 19 1 (s9 l a) [.ref 0 0] 1 (s9 l (l8 l a).2) (sA (l8 l a).1) :=
 Lz (TX l a hl) rfl fun E h0=>B0 h0 rfl ⟨rfl,trivial⟩ ⟨rfl,trivial⟩ rfl rfl rfl
theorem RN (l:List UInt8) (a:Nat) (s:C4) (hd:J9 s) (hl:l.length ≤ 400):B9 Tryz.prog 22 1 (s9 l a) [.ref 0 0,sA s] 1 (s9 l (T4 l a s).2) (.sl 1 ((T4 l a s).1.map wA)) :=
 Lz (Ti l a s hd hl) rfl fun E h0=>B0 h0 rfl ⟨rfl,trivial⟩ ⟨rfl,trivial⟩ rfl rfl rfl
end Go.Proofs.YtiphlhoclaogjabGreatDoor
namespace Go.Proofs.YtiphlhoclaogjabGreatDoor
open Go Go.Av
attribute [local irreducible] D6 B8 D8 D7 DQ E0 E1 St.le B4 B9
set_option maxRecDepth 100000
inductive J3 where
 | mk (op col code lo hi:Int) (kids:List J3)
def J3.op:J3 → Int | .mk o _ _ _ _ _=>o
def J3.col:J3 → Int | .mk _ c _ _ _ _=>c
def J3.code:J3 → Int | .mk _ _ k _ _ _=>k
def J3.lo:J3 → Int | .mk _ _ _ l _ _=>l
def J3.hi:J3 → Int | .mk _ _ _ _ h _=>h
def J3.kids:J3 → List J3 | .mk _ _ _ _ _ ks=>ks
mutual
def Tj:J3 → List AV
 | .mk o c k l h ks=>[.i o, .i c, .i k, .i l, .i h, .sl 6 (VH ks)]
def VH:List J3 → List (List AV)
 | []=>[]
 | x :: r=>Tj x :: VH r
end
mutual
def Zz:J3 → Int → Int
 | .mk _ _ _ _ _ ks,most=>Xv ks most 1
def Xv:List J3 → Int → Int → Int
 | [],_,n=>n
 | x :: r,most,n=>if most < n then n else Xv r most (n + Zz x (most - n))
end
mutual
def Xw:J3 → Nat
 | .mk _ _ _ _ _ ks=>Xx ks 0 + 1
def Xx:List J3 → Nat → Nat
 | [],n=>n
 | x :: r,n=>Xx r (max n (Xw x))
end
def aA (op:Int):Int:=if op = 5 ∨ op = 6 then 2 else if op = 7 then 1 else 0
end Go.Proofs.YtiphlhoclaogjabGreatDoor
namespace Go.Proofs.YtiphlhoclaogjabGreatDoor
open Go Go.Av
attribute [local irreducible] D6 B8 D8 D7 DQ E0 E1 St.le B4 B9
set_option maxRecDepth 100000
def Xy (s:C4) (c:J3):Int :=
 if c.op < 1 ∨ 7 < c.op then 4 else if (c.kids.length:Int) ≠ aA c.op ∨ ¬ (¬ (c.op ≠ 2 ∧ c.op ≠ 3 ∧ c.op ≠ 4 ∧ c.col ≠ 0) ∧ ¬ (c.op ≠ 2 ∧ c.code ≠ 0) ∧ (c.op = 3 ∨ c.lo = 0 ∧ c.hi = 0)) then 11 else if c.op ≠ 2 ∧ c.op ≠ 3 ∧ c.op ≠ 4 then 0 else
 if c.col < 0 ∨ (s.cols.length:Int) ≤ c.col then 7 else
 if c.op = 2 then (if (I7 s c.col).kind ≠ 2 then 7 else if c.code < 0 ∨ ((E4 s (I7 s c.col)).2.length:Int) ≤ c.code then 6 else 0)
 else if c.op = 3 then (if (I7 s c.col).kind ≠ 3 then 7 else if c.hi < c.lo ∨ c.lo < -1000000 ∨ 1000000 < c.hi then 2 else 0)
 else (if (I7 s c.col).kind ≠ 3 ∨ (I7 s c.col).opt = false then 7 else 0)
mutual
def Xz:J3 → Nat
 | .mk _ _ _ _ _ ks=>YA ks + 1
def YA:List J3 → Nat
 | []=>0
 | x :: r=>Xz x + YA r
end
mutual
def Tk (s:C4):J3 → Int
 | .mk o c k l h ks=>if Xy s (.mk o c k l h ks) = 0 then YB s ks else Xy s (.mk o c k l h ks)
def YB (s:C4):List J3 → Int
 | []=>0
 | x :: r=>if Tk s x = 0 then YB s r else Tk s x
end
def MA (s:C4) (c:J3):Int:=if H6 s = 0 then (if 40 < Xz c then 1 else if 10 < Xw c then 22 else Tk s c) else H6 s
def Tl (b:Bool):Int:=if b = true then 1 else -1
def ZN (s:C4) (c:J3) (v:Int):Int :=
 if c.op = 2 then Tl (Xh (E4 s (I7 s c.col)).1 (E4 s (I7 s c.col)).2 v c.code) else if c.op = 4 then Tl (decide (v = (-1099511627776))) else if v = (-1099511627776) then 0 else Tl (decide (c.lo ≤ v ∧ v ≤ c.hi))
mutual
def YC:J3 → List J3
 | .mk o c k l h ks=>if o = 2 ∨ o = 3 ∨ o = 4 then [.mk o c k l h ks] else YD ks
def YD:List J3 → List J3
 | []=>[]
 | x :: r=>YC x ++ YD r
end
end Go.Proofs.YtiphlhoclaogjabGreatDoor
namespace Go.Proofs.YtiphlhoclaogjabGreatDoor
open Go Go.Av
attribute [local irreducible] D6 B8 D8 D7 DQ E0 E1 St.le B4 B9
set_option maxRecDepth 100000
def ZO (op:Int) (vs:List Int) (one:Int):Int:=if op = 1 then 1 else if op = 5 then min (vs.getD 0 0) (vs.getD 1 0) else if op = 6 then max (vs.getD 0 0) (vs.getD 1 0) else if op = 7 then -(vs.getD 0 0) else one
mutual
def aB (g:J3 → Int):J3 → Int
 | .mk o c k l h ks=>ZO o (YE g ks) (g (.mk o c k l h ks))
def YE (g:J3 → Int):List J3 → List Int
 | []=>[]
 | x :: r=>aB g x :: YE g r
end
end Go.Proofs.YtiphlhoclaogjabGreatDoor
namespace Go.Proofs.YtiphlhoclaogjabGreatDoor
open Go Go.Av
attribute [local irreducible] D6 B8 D8 D7 DQ E0 E1 St.le B4 B9
set_option maxRecDepth 100000
def GE (b:UInt8):Bool:=decide (97 ≤ b.toNat ∧ b.toNat ≤ 122 ∨ 48 ≤ b.toNat ∧ b.toNat ≤ 57 ∨ b.toNat = 95)
def H9 (w t:List UInt8):List UInt8 × Bool:=if w.isPrefixOf t = true then (t.drop w.length,true) else (t,false)
theorem Tm (w t:List UInt8):(H9 w t).1.length ≤ t.length:=by
 unfold H9
 split
 ·simp
 ·exact Nat.le_refl _
theorem GZ {p:UInt8 → Bool}:∀ {t:List UInt8} {n:Nat},(∀ i b,i < n → t[i]? = some b → p b = true) → n ≤ t.length → (∀ b,t[n]? = some b → p b = false) → t.takeWhile p = t.take n ∧ t.dropWhile p = t.drop n
 | [],n,_,hn,_=>by
   have:n = 0:=by simpa using hn
   subst this;exact ⟨rfl,rfl⟩
 | a :: r,0,_,_,h2=>by
   have:=h2 a rfl
   rw [List.takeWhile_cons,List.dropWhile_cons,this]
   exact ⟨rfl,rfl⟩
 | a :: r,n + 1,h1,hn,h2=>by
   have ha:=h1 0 a (by omega) rfl
   obtain ⟨i1,i2⟩:=GZ (p:=p) (t:=r) (n:=n) (fun i b hi hb=>h1 (i + 1) b (by omega) (by simpa using hb)) (by simpa using hn) (fun b hb=>h2 b (by simpa using hb))
   rw [List.takeWhile_cons,List.dropWhile_cons,ha,i1,i2]
   exact ⟨rfl,rfl⟩
abbrev YF:List UInt8:=[32,117,110,100,101,114,32]
abbrev ZP:List UInt8:=[32,102,114,111,109,32]
abbrev ap:List UInt8:=[32,116,111,32]
abbrev ZQ:List UInt8:=[32,109,105,115,115,105,110,103]
abbrev aC:List UInt8:=[32,97,110,100,32]
abbrev aq:List UInt8:=[32,111,114,32]
abbrev aD:List UInt8:=[110,111,116,32]
abbrev aE:List UInt8:=[97,108,108]
structure Rd4 where
 c:J3
 ok:Bool
 t:List UInt8
 left:Int
def KU (s:C4) (col:Int):List UInt8:=(I7 s col).name
def ZR (s:C4) (col code:Int):List UInt8:=((E4 s (I7 s col)).2.getD code.toNat ⟨[],0⟩).name
mutual
def Tn (s:C4):J3 → List UInt8
 | .mk o c k l h ks =>
   if o = 2 then KU s c ++ YF ++ ZR s c k
   else if o = 3 then KU s c ++ ZP ++ Lib.itoa l ++ ap ++ Lib.itoa h
   else if o = 4 then KU s c ++ ZQ
   else if o = 5 then [40] ++ (Iq s ks).getD 0 [] ++ aC ++ (Iq s ks).getD 1 [] ++ [41]
   else if o = 6 then [40] ++ (Iq s ks).getD 0 [] ++ aq ++ (Iq s ks).getD 1 [] ++ [41]
   else if o = 7 then aD ++ (Iq s ks).getD 0 []
   else aE
def Iq (s:C4):List J3 → List (List UInt8)
 | []=>[]
 | x :: r=>Tn s x :: Iq s r
end
theorem MC {w t:List UInt8}:w.isPrefixOf t = true ↔ (w.length ≤ t.length ∧ t.take w.length = w):=by
 rw [List.isPrefixOf_iff_prefix]
 constructor
 ·rintro ⟨r,rfl⟩;simp
 ·rintro ⟨h1,h2⟩
  exact ⟨t.drop w.length,by conv=>lhs;arg 1;rw [← h2]
                            exact List.take_append_drop _ _⟩
set_option maxHeartbeats 2000000 in
theorem CI (t w:List UInt8) (ht:t.length ≤ 9223372036854775807) (hw:w.length ≤ 9223372036854775807):B4 Tryz.prog 75 [.str t, .str w] (.b (w.isPrefixOf t)):=by
 have hp:=MC (w:=w) (t:=t)
 refine F3 Tryz.func75 18 fun hrd E h0=>?_
 clear hrd
 repeat' ((first|refine A4 ?_|refine S1 ?_|refine Z1 ?_|refine Z2 ?_|(refine And.intro ?_ ?_<;>intro h<;>try first|(exfalso;omega)|exact absurd rfl h)|refine Z3 ?_|refine Z4 ?_|intro el hel hbB|intro el hel|intro ex|refine Z5 ?_|(refine A9 ?_ ?_;exact ⟨by kernel_rfl,by decide⟩)|refine A8 ?_ ?_|exact A7|refine A6 ?_ ?_|exact A5|(refine A0 ?_ ?_ ?_;kernel_rfl;kernel_rfl)) <;> (try (conv=>whnf)))
 all_goals first
  | (refine B5 rfl (congrArg AV.b (Bool.eq_iff_iff.2 ?_));rw [hp];simp only [decide_eq_true_iff,Bool.false_eq_true,false_iff];omega)
  | (refine B5 rfl (congrArg AV.b (Bool.eq_iff_iff.2 ?_));rw [hp];simp only [decide_eq_true_iff,Bool.false_eq_true,false_iff];simp;omega)
  | (refine B5 rfl (congrArg AV.b (Bool.eq_iff_iff.2 ?_));rw [hp];clear h0;trace_state)
def YG (t:List UInt8) (n:Nat):Prop:=n ≤ t.length ∧ ∀ i b,i < n → t[i]? = some b → GE b = true
theorem YG.all {t:List UInt8} {n:Nat} (h:YG t n) (hn:¬ (n:Int) < t.length):t.takeWhile GE = t.take n ∧ t.dropWhile GE = t.drop n :=
 GZ (fun i c hi hc=>h.2 i c hi hc) h.1 (fun c hc=>by have:=(List.getElem?_eq_some_iff.1 hc).1;omega)
end Go.Proofs.YtiphlhoclaogjabGreatDoor
namespace Go.Proofs.YtiphlhoclaogjabGreatDoor
open Go Go.Av
attribute [local irreducible] D6 B8 D8 D7 DQ E0 E1 St.le B4 B9
set_option maxRecDepth 100000
theorem WL:∀ d:Fin 10,(UInt8.ofNat (48 + d.val)).toNat = 48 + d.val:=by decide
theorem Hq {d:Nat} (h:d < 10):(UInt8.ofNat (48 + d)).toNat = 48 + d:=WL ⟨d,h⟩
theorem Es:∀ (l:List UInt8) (acc u d:Nat),Lib.parseUint10 acc l = .ok u → d < 10 → u * 10 + d < 1000000000000000000 → u < 1844674407370955162 → Lib.parseUint10 acc (l ++ [UInt8.ofNat (48 + d)]) = .ok (u * 10 + d)
 | [],acc,u,d,h,hd,hb,hu=>by
   unfold Lib.parseUint10 at h
   cases h
   have e:=Hq hd
   show Lib.parseUint10 acc [UInt8.ofNat (48 + d)] = _
   unfold Lib.parseUint10
   rw [if_pos (by omega),if_neg (by omega),if_neg (by omega)]
   unfold Lib.parseUint10
   rw [e]
   congr 1
   omega
 | c :: r,acc,u,d,h,hd,hb,hu=>by
   unfold Lib.parseUint10 at h
   rw [List.cons_append]
   unfold Lib.parseUint10
   split at h
   ·rename_i h1
    rw [if_pos h1]
    split at h
    ·cases h
    ·rename_i h2
     rw [if_neg h2]
     split at h
     ·cases h
     ·rename_i h3
      rw [if_neg h3]
      exact Es r _ u d h hd hb hu
   ·cases h
def U9 (c:UInt8):Bool:=decide (48 ≤ c.toNat ∧ c.toNat ≤ 57)
theorem RO (u:Nat):u < 1000000000000000000 → Lib.parseUint10 0 (Lib.decDigits u) = .ok u ∧ (Lib.decDigits u).all U9 = true ∧ Lib.decDigits u ≠ []:=by
 induction u using Nat.strongRecOn with
 | ind u ih =>
   intro h
   rw [Lib.decDigits]
   by_cases h1:u < 10
   ·rw [dif_pos h1]
    have e:=Hq h1
    refine ⟨?_,?_,by simp⟩
    ·have:=Es [] 0 0 u rfl h1 (by omega) (by omega)
     simpa using this
    ·simp only [List.all_cons,List.all_nil,Bool.and_true,U9,decide_eq_true_eq]
     omega
   ·rw [dif_neg h1]
    obtain ⟨i1,i2,i3⟩:=ih (u / 10) (by omega) (by omega)
    have hd:u % 10 < 10:=by omega
    have e:=Hq hd
    refine ⟨?_,?_,by simp⟩
    ·rw [Es _ 0 (u / 10) (u % 10) i1 hd (by omega) (by omega)]
     congr 1
     omega
    ·rw [List.all_append,i2]
     simp only [List.all_cons,List.all_nil,Bool.and_true,Bool.true_and,U9,decide_eq_true_eq]
     omega
theorem YH {c:UInt8} (h:U9 c = true):GE c = true:=by
 unfold U9 at h
 unfold GE
 have:=of_decide_eq_true h
 exact decide_eq_true (.inr (.inl this))
theorem Ga {l:List UInt8} {c:UInt8} {r:List UInt8} (h:l.all U9 = true) (e:l = c :: r):48 ≤ c.toNat ∧ c.toNat ≤ 57:=by
 subst e
 rw [List.all_cons,Bool.and_eq_true] at h
 exact of_decide_eq_true h.1
def VI (u:List UInt8):Prop:=∀ b r,u = b :: r → GE b = false
theorem Ns (w u:List UInt8):H9 w (w ++ u) = (u,true):=by
 have h:w.isPrefixOf (w ++ u) = true:=by
  rw [List.isPrefixOf_iff_prefix]
  exact List.prefix_append w u
 unfold H9
 rw [if_pos h,List.drop_left]
theorem To {a b:UInt8} {w u:List UInt8} (h:a ≠ b):H9 (a :: w) (b :: u) = (b :: u,false):=by
 unfold H9
 rw [if_neg (by
  rw [List.isPrefixOf_cons_cons]
  simp [h])]
theorem WM {w t:List UInt8} (h:(H9 w t).2 = true):t = w ++ (H9 w t).1:=by
 unfold H9 at h ⊢
 split
 ·rename_i hp
  rw [List.isPrefixOf_iff_prefix] at hp
  obtain ⟨v,rfl⟩:=hp
  dsimp only
  rw [List.drop_left]
 ·rename_i hp
  rw [if_neg hp] at h
  cases h
end Go.Proofs.YtiphlhoclaogjabGreatDoor
