/- Draws: values, rows and picks: the walks. -/
import Derived.Test.YtiphlhoclaogjabGreatDoorQB13
import Derived.Test.YtiphlhoclaogjabGreatDoorQSx
import Derived.Test.YtiphlhoclaogjabGreatDoorQAvTy
import Derived.Test.YtiphlhoclaogjabGreatDoorQE3
import Derived.Test.YtiphlhoclaogjabGreatDoorQB12
import Derived.Test.YtiphlhoclaogjabGreatDoorQB8
import Derived.Lib.ItoaNum
import Derived.Lib.AtoiAll
import Derived.Test.YtiphlhoclaogjabGreatDoorQSj
set_option linter.unusedVariables false
set_option linter.unnecessarySimpa false
set_option linter.unusedSimpArgs false
namespace Go.Proofs.YtiphlhoclaogjabGreatDoor
open Go Go.Av
attribute [local irreducible] D1 B5 D5 D3 DQ D7 E0 St.le B3 B6
set_option maxRecDepth 100000
theorem YF {l:List UInt8} {a:Nat} {s:B8} {k:Int} {c:C1} (hca:I0 s k = c) (h:c.kind = 1):Y5 l a s k = (1 + ((C4 l a 60).1:Int),(C4 l a 60).2):=by unfold Y5;dsimp only;rw [hca,if_pos h]
theorem YG {l:List UInt8} {a:Nat} {s:B8} {k:Int} {c:C1} (hca:I0 s k = c) (h1:¬ c.kind = 1) (h:c.kind = 2):Y5 l a s k = ((((P5 s k).getD (C4 l a (P5 s k).length).1 0:Nat):Int),(C4 l a (P5 s k).length).2):=by unfold Y5;dsimp only;rw [hca,if_neg h1,if_pos h]
theorem YH {l:List UInt8} {a:Nat} {s:B8} {k:Int} {c:C1} (hca:I0 s k = c) (h1:¬ c.kind = 1) (h2:¬ c.kind = 2) (h:c.opt = true) (h4:((C4 l a 4).1:Int) = 3):Y5 l a s k = ((-1099511627776),(C4 l a 4).2):=by unfold Y5;dsimp only;rw [hca,if_neg h1,if_neg h2,if_pos h,if_pos h4]
theorem YI {l:List UInt8} {a:Nat} {s:B8} {k:Int} {c:C1} (hca:I0 s k = c) (h1:¬ c.kind = 1) (h2:¬ c.kind = 2) (h:c.opt = true) (h4:¬ ((C4 l a 4).1:Int) = 3):Y5 l a s k = (c.low + ((C4 l (C4 l a 4).2 (c.high - c.low + 1)).1:Int),(C4 l (C4 l a 4).2 (c.high - c.low + 1)).2):=by unfold Y5;dsimp only;rw [hca,if_neg h1,if_neg h2,if_pos h,if_neg h4]
theorem YJ {l:List UInt8} {a:Nat} {s:B8} {k:Int} {c:C1} (hca:I0 s k = c) (h1:¬ c.kind = 1) (h2:¬ c.kind = 2) (h:c.opt = false):Y5 l a s k = (c.low + ((C4 l a (c.high - c.low + 1)).1:Int),(C4 l a (c.high - c.low + 1)).2):=by unfold Y5;dsimp only;rw [hca,if_neg h1,if_neg h2,if_neg (by rw [h];exact Bool.false_ne_true)]
set_option maxHeartbeats 4000000 in
theorem Pa (l:List UInt8) (a:Nat) (s:B8) (k:Nat) {c:C1} (hd:J1 s) (hc:s.cols[k]? = some c) (hl:l.length ≤ 400):B6 Tryz.prog 53 1 (t8 l a) [.ref 0 0,sA s, .i k] 1 (t8 l (Y5 l a s k).2) (.i (Y5 l a s k).1):=by
 have hca:I0 s k = c:=u4 (by simpa using hc)
 have hlt:=R0 hc
 have hln:=hd.lens
 have hm:¬ c.kind = 1 → ¬ c.kind = 2 → c.low ≤ c.high ∧ -4 ≤ c.low ∧ c.high ≤ 46:=by
  rcases hd.col hc with ⟨_,rfl⟩ | ⟨_,rfl | rfl⟩ | ⟨_,nm,hm⟩
  ·intro h;exact absurd rfl h
  ·intro _ h;exact absurd rfl h
  ·intro _ h;exact absurd rfl h
  ·have:=hm.low;have:=hm.high;omega
 have hlv:c.kind = 2 → B3 Tryz.prog 78 [sA s, .i k] (.sl 1 ((P5 s k).map iA)):=fun h=>NW s k (by omega) (by simpa using hc) (hd.lvs hc h).1
 have hll:c.kind = 2 → (P5 s k).length ≤ 10 ∧ (P5 s k)[(C4 l a (P5 s k).length).1]? = some ((P5 s k).getD (C4 l a (P5 s k).length).1 0):=by
  intro h
  obtain ⟨_,_,h1,h2⟩:=hd.lvs hc h
  have hn:=M7 l a (n:=(P5 s k).length) (by omega)
  have:(C4 l a (P5 s k).length).1 < (P5 s k).length:=by omega
  rw [List.getD_eq_getElem?_getD,List.getElem?_eq_getElem this]
  exact ⟨h2,rfl⟩
 have r1:=l6 l a 1 60 hl (by omega) (by omega) (by omega)
 have r2:=fun (h1:¬ c.kind = 1) (h2:¬ c.kind = 2) (b:Nat)=>l6 l b c.low c.high hl (hm h1 h2).1 (by have:=hm h1 h2;omega) (by have:=hm h1 h2;omega)
 have r3:=Bo l a 4 hl (by omega)
 have r4:=u3 l a (P5 s k).length hl
 refine M6 Tryz.func53 44 fun E h0=>?_
 repeat' ((first | (refine A7 (x:=c) hc (by omega) ?_) | (refine A7 (hll (by assumption)).2 (by omega) ?_) | refine A9 (hlv (by assumption)) ?_ | refine ⟨O7 [0] [0] r1 rfl rfl rfl rfl rfl ⟨rfl,trivial⟩ rfl rfl rfl rfl rfl ?_⟩ | refine ⟨O7 [0] [0] (r2 (by assumption) (by assumption) _) rfl rfl rfl rfl rfl ⟨rfl,trivial⟩ rfl rfl rfl rfl rfl ?_⟩ | refine ⟨O7 [0] [0] r3 rfl rfl rfl rfl rfl ⟨rfl,trivial⟩ rfl rfl rfl rfl rfl ?_⟩ | refine ⟨O7 [0] [0] r4 rfl rfl rfl rfl rfl ⟨rfl,trivial⟩ rfl rfl rfl rfl rfl ?_⟩ |refine A1 ?_|refine S1 ?_|refine Z1 ?_|refine Z2 ?_|(refine And.intro ?_ ?_<;>intro h<;>try first|(exfalso;omega)|exact absurd rfl h)|refine Z3 ?_|refine Z4 ?_|intro el hel hbB|intro el hel|intro ex|refine Z5 ?_|(refine A6 ?_ ?_;exact ⟨by kernel_rfl,by decide⟩)|refine A5 ?_ ?_|exact A4|refine A3 ?_ ?_|exact A2|(refine A0 ?_ ?_ ?_;kernel_rfl;kernel_rfl)) <;> (try (conv=>whnf)))
 all_goals first
  | (rw [YF hca (by assumption)];exact C9 (A8 h0 rfl ⟨rfl,trivial⟩ ⟨rfl,trivial⟩ rfl rfl rfl))
  | (rw [YG hca (by assumption) (by assumption)];exact C9 (A8 h0 rfl ⟨rfl,trivial⟩ ⟨rfl,trivial⟩ rfl rfl rfl))
  | (rw [YH hca (by assumption) (by assumption) (by assumption) (by omega)];exact C9 (A8 h0 rfl ⟨rfl,trivial⟩ ⟨rfl,trivial⟩ rfl rfl rfl))
  | (rw [YI hca (by assumption) (by assumption) (by assumption) (by omega)];exact C9 (A8 h0 rfl ⟨rfl,trivial⟩ ⟨rfl,trivial⟩ rfl rfl rfl))
  | (rw [YJ hca (by assumption) (by assumption) (by assumption)];exact C9 (A8 h0 rfl ⟨rfl,trivial⟩ ⟨rfl,trivial⟩ rfl rfl rfl))
set_option maxHeartbeats 4000000 in
theorem UI (l:List UInt8) (a:Nat) (s:B8) (hd:J1 s) (hl:l.length ≤ 400):B6 Tryz.prog 22 1 (t8 l a) [.ref 0 0,sA s] 2 [(0,some (.box [.sl 1 (l.map R8), .i (T4 l a s).2])),(1,some (.row 3 1 0 ((T4 l a s).1.map wA)))] (.row 1 0 s.cols.length):=by
 have hln:=hd.lens
 refine M6 Tryz.func22 22 fun E h0=>?_
 repeat' ((first|refine A1 ?_|refine S1 ?_|refine Z1 ?_|refine Z2 ?_|(refine And.intro ?_ ?_<;>intro h<;>try first|(exfalso;omega)|exact absurd rfl h)|refine Z3 ?_|refine Z4 ?_|intro el hel hbB|intro el hel|intro ex|refine Z5 ?_|(refine A6 ?_ ?_;exact ⟨by kernel_rfl,by decide⟩)|refine A5 ?_ ?_|exact A4|refine A3 ?_ ?_|exact A2|(refine A0 ?_ ?_ ?_;kernel_rfl;kernel_rfl)) <;> (try (conv=>whnf)))
 refine C5 (ι:=Nat × List Int × Nat) (fun x=>⟨[(0, .ref 0 0),(3, .ref 1 0),(5, .row 2 0 x.1),(9, .i s.cols.length),(10, .i x.1)],3,[(0,some (.box [.sl 1 (l.map R8), .i x.2.2])),(1,some (.box (sL s))),(2,some (.row 3 1 0 (x.2.1.map wA)))]⟩)
  (fun x=>x.1 ≤ s.cols.length ∧ x.2.1.length = x.1 ∧ T4 l a s = rowFrom l s x.1 x.2 (s.cols.length - x.1)) (fun x=>s.cols.length - x.1) (0,[],a) ⟨by dsimp only;omega,rfl,rfl⟩
  (C7 (Bi (d:=5) (e:=3) (sz:=1) rfl) (A8 h0 rfl ⟨rfl,rfl,rfl,rfl,rfl,trivial⟩ ⟨rfl,rfl,⟨0,rfl⟩,trivial⟩ rfl rfl rfl)) (fun x hI=>?_)
 obtain ⟨k,out,b⟩:=x
 obtain ⟨hk,hlen,hI⟩:=hI
 dsimp only at hk hlen hI ⊢
 have hv:=fun (h:(k:Int) < s.cols.length)=>Pa l b s k hd (List.getElem?_eq_getElem (show k < s.cols.length by omega)) hl
 repeat' ((first | refine ⟨O7 [0] [0] (hv (by assumption)) rfl rfl rfl rfl rfl ⟨rfl,trivial⟩ rfl rfl rfl rfl rfl ?_⟩ |refine A1 ?_|refine S1 ?_|refine Z1 ?_|refine Z2 ?_|(refine And.intro ?_ ?_<;>intro h<;>try first|(exfalso;omega)|exact absurd rfl h)|refine Z3 ?_|refine Z4 ?_|intro el hel hbB|intro el hel|intro ex|refine Z5 ?_|(refine A6 ?_ ?_;exact ⟨by kernel_rfl,by decide⟩)|refine A5 ?_ ?_|exact A4|refine A3 ?_ ?_|exact A2|(refine A0 ?_ ?_ ?_;kernel_rfl;kernel_rfl)) <;> (try (conv=>whnf)))
 all_goals first
  | exact ⟨(k + 1,out ++ [(Y5 l b s k).1],(Y5 l b s k).2),⟨by dsimp only;omega,by dsimp only;rw [List.length_append,List.length_singleton,hlen],by rw [hI,show s.cols.length - k = (s.cols.length - (k + 1)) + 1 by omega];rfl⟩,by dsimp only;omega,A8 h0 rfl ⟨rfl,rfl,rfl,rfl,rfl,trivial⟩ ⟨rfl,rfl,⟨_,congrArg (C0.row 3 1 _) (by rw [List.map_append];rfl)⟩,trivial⟩ rfl rfl rfl⟩
  | (have e:T4 l a s = (out,b):=by rw [hI,show s.cols.length - k = 0 by omega];rfl
     have ek:k = s.cols.length:=by omega
     rw [e]
     exact C9 (C7 (Co 1 2 h0 rfl rfl) (A8 h0 rfl ⟨congrArg (fun z:Nat=>some (AV.row 1 0 z)) ek,trivial⟩ ⟨rfl,⟨_,rfl⟩,trivial⟩ rfl rfl rfl)))
end Go.Proofs.YtiphlhoclaogjabGreatDoor
namespace Go.Av
open Go Go.RowKit
theorem MK {P:Program} {f m0 m1 m2:Nat} {hp0 hp1 hp2:Hp} {args:List AV} {r r2:AV} (h:B6 P f m0 hp0 args m1 hp1 r) (hm:Nat.ble m0 m1 = true) (hle:∀ E:Env,E.n0 = m0 → St.le E 1 ⟨[(0,r)],m1,hp1⟩ ⟨[(0,r2)],m2,hp2⟩):B6 P f m0 hp0 args m2 hp2 r2:=by
 refine ⟨h.1,fun X θ w vs hX htab hbk hl hvs=>?_⟩
 refine Calls.mono (h.2 X θ w vs hX htab hbk hl hvs) ?_
 rintro e w' ⟨⟨v,θ',rfl,hv,hbk',hown,hθ⟩,hos,htape,hout,hsize,hblock⟩
 have sat:d9 ⟨w,X,owned θ hp0,θ,m0,htab⟩ 1 ⟨[(0,r)],m1,hp1⟩ { tmps:=#[v],defers:=[] } w':=by
  refine ⟨θ',rfl,rfl,⟨hos,htape,hout,hsize,hblock⟩,fun s x hs=>?_,hbk'.owns,hbk'.apart,fun i b k hi hk=>⟨hbk'.fresh i b k hi hk,hown i b k hi hk⟩,hX,⟨Nat.ble_eq ▸ hm,hθ⟩⟩
  rw [F0] at hs
  split at hs
  ·rename_i e0
   subst e0
   cases hs
   exact hv
  ·cases hs
 obtain ⟨θ2,hs⟩:=hle _ rfl _ _ sat
 have hr:=hs.slots 0 r2 rfl
 exact ⟨⟨v,θ2,rfl,hr,⟨hs.owns,hs.apart,fun i b k hi hk=>(hs.mine i b k hi hk).1⟩,fun i b k hi hk=>(hs.mine i b k hi hk).2,hs.base.2⟩,hs.fr.os,hs.fr.tape,hs.fr.output,hs.fr.size,hs.fr.block⟩
end Go.Av
namespace Go.Proofs.YtiphlhoclaogjabGreatDoor
open Go Go.Av
attribute [local irreducible] D1 B5 D5 D3 DQ D7 E0 St.le B3 B6
set_option maxRecDepth 100000
theorem Re (l:List UInt8) (a:Nat) (hl:l.length ≤ 400):B6 Tryz.prog 19 1 (t8 l a) [.ref 0 0] 1 (t8 l (m8 l a).2) (sA (m8 l a).1) :=
 MK (Ty l a hl) rfl fun E h0=>A8 h0 rfl ⟨rfl,trivial⟩ ⟨rfl,trivial⟩ rfl rfl rfl
theorem Rf (l:List UInt8) (a:Nat) (s:B8) (hd:J1 s) (hl:l.length ≤ 400):B6 Tryz.prog 22 1 (t8 l a) [.ref 0 0,sA s] 1 (t8 l (T4 l a s).2) (.sl 1 ((T4 l a s).1.map wA)) :=
 MK (UI l a s hd hl) rfl fun E h0=>A8 h0 rfl ⟨rfl,trivial⟩ ⟨rfl,trivial⟩ rfl rfl rfl
end Go.Proofs.YtiphlhoclaogjabGreatDoor
namespace Go.Proofs.YtiphlhoclaogjabGreatDoor
open Go Go.Av
attribute [local irreducible] D1 B5 D5 D3 DQ D7 E0 St.le B3 B6
set_option maxRecDepth 100000
inductive I8 where
 | mk (op col code lo hi:Int) (kids:List I8)
def I8.op:I8 → Int | .mk o _ _ _ _ _=>o
def I8.col:I8 → Int | .mk _ c _ _ _ _=>c
def I8.code:I8 → Int | .mk _ _ k _ _ _=>k
def I8.lo:I8 → Int | .mk _ _ _ l _ _=>l
def I8.hi:I8 → Int | .mk _ _ _ _ h _=>h
def I8.kids:I8 → List I8 | .mk _ _ _ _ _ ks=>ks
mutual
def UJ:I8 → List AV
 | .mk o c k l h ks=>[.i o, .i c, .i k, .i l, .i h, .sl 6 (Vh ks)]
def Vh:List I8 → List (List AV)
 | []=>[]
 | x :: r=>UJ x :: Vh r
end
mutual
def aA:I8 → Int → Int
 | .mk _ _ _ _ _ ks,most=>YK ks most 1
def YK:List I8 → Int → Int → Int
 | [],_,n=>n
 | x :: r,most,n=>if most < n then n else YK r most (n + aA x (most - n))
end
mutual
def YL:I8 → Nat
 | .mk _ _ _ _ _ ks=>YM ks 0 + 1
def YM:List I8 → Nat → Nat
 | [],n=>n
 | x :: r,n=>YM r (max n (YL x))
end
def aB (op:Int):Int:=if op = 5 ∨ op = 6 then 2 else if op = 7 then 1 else 0
end Go.Proofs.YtiphlhoclaogjabGreatDoor
namespace Go.Proofs.YtiphlhoclaogjabGreatDoor
open Go Go.Av
attribute [local irreducible] D1 B5 D5 D3 DQ D7 E0 St.le B3 B6
set_option maxRecDepth 100000
def YN (s:B8) (c:I8):Int :=
 if c.op < 1 ∨ 7 < c.op then 4 else if (c.kids.length:Int) ≠ aB c.op ∨ ¬ (¬ (c.op ≠ 2 ∧ c.op ≠ 3 ∧ c.op ≠ 4 ∧ c.col ≠ 0) ∧ ¬ (c.op ≠ 2 ∧ c.code ≠ 0) ∧ (c.op = 3 ∨ c.lo = 0 ∧ c.hi = 0)) then 11 else if c.op ≠ 2 ∧ c.op ≠ 3 ∧ c.op ≠ 4 then 0 else
 if c.col < 0 ∨ (s.cols.length:Int) ≤ c.col then 7 else
 if c.op = 2 then (if (I0 s c.col).kind ≠ 2 then 7 else if c.code < 0 ∨ ((D2 s (I0 s c.col)).2.length:Int) ≤ c.code then 6 else 0)
 else if c.op = 3 then (if (I0 s c.col).kind ≠ 3 then 7 else if c.hi < c.lo ∨ c.lo < -1000000 ∨ 1000000 < c.hi then 2 else 0)
 else (if (I0 s c.col).kind ≠ 3 ∨ (I0 s c.col).opt = false then 7 else 0)
mutual
def YO:I8 → Nat
 | .mk _ _ _ _ _ ks=>YP ks + 1
def YP:List I8 → Nat
 | []=>0
 | x :: r=>YO x + YP r
end
mutual
def UK (s:B8):I8 → Int
 | .mk o c k l h ks=>if YN s (.mk o c k l h ks) = 0 then YQ s ks else YN s (.mk o c k l h ks)
def YQ (s:B8):List I8 → Int
 | []=>0
 | x :: r=>if UK s x = 0 then YQ s r else UK s x
end
def ML (s:B8) (c:I8):Int:=if F8 s = 0 then (if 40 < YO c then 1 else if 10 < YL c then 22 else UK s c) else F8 s
def UL (b:Bool):Int:=if b = true then 1 else -1
def ZU (s:B8) (c:I8) (v:Int):Int :=
 if c.op = 2 then UL (Xx (D2 s (I0 s c.col)).1 (D2 s (I0 s c.col)).2 v c.code) else if c.op = 4 then UL (decide (v = (-1099511627776))) else if v = (-1099511627776) then 0 else UL (decide (c.lo ≤ v ∧ v ≤ c.hi))
mutual
def YR:I8 → List I8
 | .mk o c k l h ks=>if o = 2 ∨ o = 3 ∨ o = 4 then [.mk o c k l h ks] else YS ks
def YS:List I8 → List I8
 | []=>[]
 | x :: r=>YR x ++ YS r
end
end Go.Proofs.YtiphlhoclaogjabGreatDoor
namespace Go.Proofs.YtiphlhoclaogjabGreatDoor
open Go Go.Av
attribute [local irreducible] D1 B5 D5 D3 DQ D7 E0 St.le B3 B6
set_option maxRecDepth 100000
def ZV (op:Int) (vs:List Int) (one:Int):Int:=if op = 1 then 1 else if op = 5 then min (vs.getD 0 0) (vs.getD 1 0) else if op = 6 then max (vs.getD 0 0) (vs.getD 1 0) else if op = 7 then -(vs.getD 0 0) else one
mutual
def aC (g:I8 → Int):I8 → Int
 | .mk o c k l h ks=>ZV o (YT g ks) (g (.mk o c k l h ks))
def YT (g:I8 → Int):List I8 → List Int
 | []=>[]
 | x :: r=>aC g x :: YT g r
end
end Go.Proofs.YtiphlhoclaogjabGreatDoor
namespace Go.Proofs.YtiphlhoclaogjabGreatDoor
open Go Go.Av
attribute [local irreducible] D1 B5 D5 D3 DQ D7 E0 St.le B3 B6
set_option maxRecDepth 100000
def CO (b:UInt8):Bool:=decide (97 ≤ b.toNat ∧ b.toNat ≤ 122 ∨ 48 ≤ b.toNat ∧ b.toNat ≤ 57 ∨ b.toNat = 95)
def L1 (w t:List UInt8):List UInt8 × Bool:=if w.isPrefixOf t = true then (t.drop w.length,true) else (t,false)
theorem GS {p:UInt8 → Bool}:∀ {t:List UInt8} {n:Nat},(∀ i b,i < n → t[i]? = some b → p b = true) → n ≤ t.length → (∀ b,t[n]? = some b → p b = false) → t.takeWhile p = t.take n ∧ t.dropWhile p = t.drop n
 | [],n,_,hn,_=>by
   have:n = 0:=by simpa using hn
   subst this;exact ⟨rfl,rfl⟩
 | a :: r,0,_,_,h2=>by
   have:=h2 a rfl
   rw [List.takeWhile_cons,List.dropWhile_cons,this]
   exact ⟨rfl,rfl⟩
 | a :: r,n + 1,h1,hn,h2=>by
   have ha:=h1 0 a (by omega) rfl
   obtain ⟨i1,i2⟩:=GS (p:=p) (t:=r) (n:=n) (fun i b hi hb=>h1 (i + 1) b (by omega) (by simpa using hb)) (by simpa using hn) (fun b hb=>h2 b (by simpa using hb))
   rw [List.takeWhile_cons,List.dropWhile_cons,ha,i1,i2]
   exact ⟨rfl,rfl⟩
abbrev YU:List UInt8:=[32,117,110,100,101,114,32]
abbrev ZW:List UInt8:=[32,102,114,111,109,32]
abbrev ap:List UInt8:=[32,116,111,32]
abbrev ZX:List UInt8:=[32,109,105,115,115,105,110,103]
abbrev aD:List UInt8:=[32,97,110,100,32]
abbrev aq:List UInt8:=[32,111,114,32]
abbrev aE:List UInt8:=[110,111,116,32]
abbrev aF:List UInt8:=[97,108,108]
structure Rd4 where
 c:I8
 ok:Bool
 t:List UInt8
 left:Int
def Kf (s:B8) (col:Int):List UInt8:=(I0 s col).name
def ZY (s:B8) (col code:Int):List UInt8:=((D2 s (I0 s col)).2.getD code.toNat ⟨[],0⟩).name
mutual
def UM (s:B8):I8 → List UInt8
 | .mk o c k l h ks =>
   if o = 2 then Kf s c ++ YU ++ ZY s c k
   else if o = 3 then Kf s c ++ ZW ++ Lib.itoa l ++ ap ++ Lib.itoa h
   else if o = 4 then Kf s c ++ ZX
   else if o = 5 then [40] ++ (Iv s ks).getD 0 [] ++ aD ++ (Iv s ks).getD 1 [] ++ [41]
   else if o = 6 then [40] ++ (Iv s ks).getD 0 [] ++ aq ++ (Iv s ks).getD 1 [] ++ [41]
   else if o = 7 then aE ++ (Iv s ks).getD 0 []
   else aF
def Iv (s:B8):List I8 → List (List UInt8)
 | []=>[]
 | x :: r=>UM s x :: Iv s r
end
theorem MM {w t:List UInt8}:w.isPrefixOf t = true ↔ (w.length ≤ t.length ∧ t.take w.length = w):=by
 rw [List.isPrefixOf_iff_prefix]
 constructor
 ·rintro ⟨r,rfl⟩;simp
 ·rintro ⟨h1,h2⟩
  exact ⟨t.drop w.length,by conv=>lhs;arg 1;rw [← h2]
                            exact List.take_append_drop _ _⟩
set_option maxHeartbeats 2000000 in
theorem Hs (t w:List UInt8) (ht:t.length ≤ 9223372036854775807) (hw:w.length ≤ 9223372036854775807):B3 Tryz.prog 75 [.str t, .str w] (.b (w.isPrefixOf t)):=by
 have hp:=MM (w:=w) (t:=t)
 refine F3 Tryz.func75 18 fun hrd E h0=>?_
 clear hrd
 repeat' ((first|refine A1 ?_|refine S1 ?_|refine Z1 ?_|refine Z2 ?_|(refine And.intro ?_ ?_<;>intro h<;>try first|(exfalso;omega)|exact absurd rfl h)|refine Z3 ?_|refine Z4 ?_|intro el hel hbB|intro el hel|intro ex|refine Z5 ?_|(refine A6 ?_ ?_;exact ⟨by kernel_rfl,by decide⟩)|refine A5 ?_ ?_|exact A4|refine A3 ?_ ?_|exact A2|(refine A0 ?_ ?_ ?_;kernel_rfl;kernel_rfl)) <;> (try (conv=>whnf)))
 all_goals first
  | (refine B2 rfl (congrArg AV.b (Bool.eq_iff_iff.2 ?_));rw [hp];simp only [decide_eq_true_iff,Bool.false_eq_true,false_iff];omega)
  | (refine B2 rfl (congrArg AV.b (Bool.eq_iff_iff.2 ?_));rw [hp];simp only [decide_eq_true_iff,Bool.false_eq_true,false_iff];simp;omega)
  | (refine B2 rfl (congrArg AV.b (Bool.eq_iff_iff.2 ?_));rw [hp];clear h0;trace_state)
def YV (t:List UInt8) (n:Nat):Prop:=n ≤ t.length ∧ ∀ i b,i < n → t[i]? = some b → CO b = true
theorem YV.all {t:List UInt8} {n:Nat} (h:YV t n) (hn:¬ (n:Int) < t.length):t.takeWhile CO = t.take n ∧ t.dropWhile CO = t.drop n :=
 GS (fun i c hi hc=>h.2 i c hi hc) h.1 (fun c hc=>by have:=(List.getElem?_eq_some_iff.1 hc).1;omega)
end Go.Proofs.YtiphlhoclaogjabGreatDoor
