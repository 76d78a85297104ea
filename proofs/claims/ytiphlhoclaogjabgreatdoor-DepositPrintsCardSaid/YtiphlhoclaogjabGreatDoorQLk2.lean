/- DepositPrints: the file of made sources, and of any ones, or the error. -/
import Derived.Test.YtiphlhoclaogjabGreatDoorQC5
import Derived.Test.YtiphlhoclaogjabGreatDoorQKa0
import Derived.Test.YtiphlhoclaogjabGreatDoorQF7
set_option linter.unusedVariables false
set_option linter.unnecessarySimpa false
set_option linter.unusedSimpArgs false
namespace Go.Proofs.YtiphlhoclaogjabGreatDoor
open Go Go.Av
attribute [local irreducible] D1 B5 D5 D3 DQ D7 E0 St.le B3 B6
set_option maxRecDepth 100000
theorem Se {a:AV} (h:Q9 Tryz.prog 27 a):∃ ws:List (List Int),ws.length ≤ maxLen ∧ a = .sl 1 (ws.map D8):=by
 obtain ⟨f2,ls,hl,hall,rfl⟩:=Je (c:=1) Tryz.underlying27 (by kernel_rfl) h
 obtain ⟨ws,rfl,_⟩:=p9 (F:=D8) (R:=fun _=>True) (fun x hx=>by
  obtain ⟨w,_,e⟩:=OZ (hall x hx)
  exact ⟨w,trivial,e⟩)
 exact ⟨ws,by rw [List.length_map] at hl;exact hl,rfl⟩
set_option maxHeartbeats 16000000 in
theorem Sf (l:List UInt8) (raw:B8) (rr:List (List Int)) (tx:List UInt8) (hl:l.length ≤ maxLen) (htx:tx.length ≤ maxLen):B3 Tryz.prog 3 [.sl 1 (l.map R8),sA raw, .sl 1 (rr.map D8), .str tx] (.b true):=by
 unfold maxLen at hl htx
 have hL:(l.take 400).length ≤ 400:=List.length_take_le _ _
 have hnew:=GP l (by omega)
 have hsrc:=Gg (l.take 400) 0 12 hL (by decide) (by decide)
 have hxl:(k7 (l.take 400) 0 12).1.2.length ≤ 200:=by
  have h:=(Gh (l.take 400) 0 12 (by decide) (by decide)).1
  rw [BW] at h
  by_cases hc:¬ r9 (k7 (l.take 400) 0 12).1.1 (k7 (l.take 400) 0 12).1.2 = 0
  ·rw [if_pos hc] at h
   simp only [Prod.mk.injEq] at h
   exact absurd h.2 hc
  ·exact (IF (Decidable.of_not_not hc)).2.1
 generalize k7 (l.take 400) 0 12 = X at *
 obtain ⟨⟨s,rows⟩,a1⟩:=X
 generalize l.take 400 = t at *
 dsimp only at hsrc hxl
 have p1:=T8 s rows
 have r1:=Bs s rows
 have p2:=T8 raw rr
 have r2:=Bs raw rr
 have p3:=T8 s (rows ++ rr)
 have r3:=Bs s (rows ++ rr)
 generalize L3 s rows = R1 at *
 generalize L3 raw rr = R2 at *
 generalize L3 s (rows ++ rr) = R3 at *
 obtain ⟨t1,k1⟩:=R1
 obtain ⟨t2,k2⟩:=R2
 obtain ⟨t3,k3⟩:=R3
 dsimp only at p1 r1 p2 r2 p3 r3
 rw [List.map_append] at p3 r3
 have s1:=Br tx (by omega)
 have s2:=En tx (by omega)
 generalize M8 tx = sm at *
 have ha:=Ch
 refine F3 Tryz.func3 124 fun hrd E h0=>?_
 have hrr:=j6 (s:=raw) (hrd _ (by simp))
 have hr2:rr.length ≤ 9223372036854775807:=by
  have:=(hrd (.sl 1 (rr.map D8)) (by simp)).sl
  simpa using this
 obtain ⟨n1,n2,_⟩:=hrr
 clear hrd
 repeat' ((first | refine X8 [] [] hnew rfl rfl rfl rfl rfl trivial rfl rfl rfl rfl rfl ?_ | refine A9 p1 ?_ | refine A9 r1 ?_ | refine A9 p2 ?_ | refine A9 r2 ?_ | refine A9 s1 ?_ | refine A9 s2 ?_ | refine A9 ha ?_ | (refine G7 ?_ ?_;(simp only [List.length_map,List.length_append,List.length_nil];omega)) | (refine G1 8 ?_;refine K1 (id:=8) (σ':=⟨[(2, .sl 1 (rr.map D8)),(3, .str tx),(9, .iptr (Gf s rows)),(10, .str t1),(11, .i k1),(12, .str t1),(13, .i k1),(14, .str t2),(15, .i k2),(16, .str t2),(17, .i k2)],0,[]⟩) (A8 h0 rfl ⟨rfl,rfl,rfl,rfl,rfl,rfl,rfl,rfl,rfl,rfl,rfl,trivial⟩ trivial rfl rfl rfl) ?_;refine I3 (id:=8) ⟨[(2, .sl 1 (rr.map D8)),(3, .str tx),(9, .iptr (Gf s rows)),(10, .str t1),(11, .i k1),(12, .str t1),(13, .i k1),(14, .str t2),(15, .i k2),(16, .str t2),(17, .i k2),(19, .i k3)],0,[]⟩ ?_ ?_) | (refine I3 (id:=9) ⟨[(3, .str tx),(10, .str t1),(11, .i k1),(12, .str t1),(13, .i k1),(14, .str t2),(15, .i k2),(16, .str t2),(17, .i k2),(19, .i k3),(21, .i k3)],0,[]⟩ ?_ ?_) |refine A1 ?_|refine S1 ?_|refine Z1 ?_|refine Z2 ?_|(refine And.intro ?_ ?_<;>intro h<;>try first|(exfalso;omega)|exact absurd rfl h)|refine Z3 ?_|refine Z4 ?_|intro el hel hbB|intro el hel|intro ex|refine Z5 ?_|(refine A6 ?_ ?_;exact ⟨by kernel_rfl,by decide⟩)|refine A5 ?_ ?_|exact A4|refine A3 ?_ ?_|exact A2|(refine A0 ?_ ?_ ?_;kernel_rfl;kernel_rfl) | refine nc [1] [0] hsrc rfl rfl rfl ⟨rfl,trivial⟩ ?_ | refine HR [0] p3 rfl rfl rfl rfl rfl rfl ?_ | refine HR [0] r3 rfl rfl rfl rfl rfl rfl ?_) <;> (try (conv=>whnf)))
 all_goals first
  | (exfalso;omega)
  | exact A8 h0 rfl ⟨rfl,rfl,rfl,rfl,rfl,rfl,rfl,rfl,rfl,rfl,rfl,rfl,trivial⟩ trivial rfl rfl rfl
  | exact A8 h0 rfl ⟨rfl,rfl,rfl,rfl,rfl,rfl,rfl,rfl,rfl,rfl,rfl,trivial⟩ trivial rfl rfl rfl
  | exact B2 rfl rfl
  | contradiction
theorem VK (l:List AV) (h:BU Tryz.prog Tryz.f3.params.toList l):B3 Tryz.prog 3 l (.b true):=by
 obtain ⟨a1,r1,rfl,h1,a2,r2,rfl,h2,a3,r3,rfl,h3,a4,r4,rfl,h4,rfl⟩:=h
 obtain ⟨l,hl,rfl⟩:=Ll h1
 obtain ⟨x,rfl⟩:=XP h2
 obtain ⟨rr,_,rfl⟩:=Se h3
 obtain ⟨tx,ht,rfl⟩:=Vc h4
 exact Sf l x rr tx hl ht
end Go.Proofs.YtiphlhoclaogjabGreatDoor
namespace Go.Proofs.YtiphlhoclaogjabGreatDoor
open Go Go.Av
attribute [local irreducible] D1 B5 D5 D3 DQ D7 E0 St.le B3 B6
set_option maxRecDepth 100000
theorem Ms {m:Nat} (h:¬ m < 10):Lib.decDigits m = Lib.decDigits (m / 10) ++ [UInt8.ofNat (48 + m % 10)]:=by
 rw [Lib.decDigits,dif_neg h]
theorem Zl (n:Nat):(n:Int).tdiv 10 = ((n / 10:Nat):Int):=by
 rw [Int.tdiv_eq_ediv_of_nonneg (Int.natCast_nonneg _)];omega
theorem Mt (m:Nat):(Utf8.encode (IntKind.i32.wrap (48 + (m:Int).tmod 10))).data.toList = [UInt8.ofNat (48 + m % 10)]:=by
 have h1:(m:Int).tmod 10 = ((m % 10:Nat):Int):=by rw [Int.tmod_eq_emod_of_nonneg (Int.natCast_nonneg _)];omega
 rw [h1]
 have h2:m % 10 < 10:=Nat.mod_lt _ (by decide)
 generalize m % 10 = d at *
 have key:∀ d,d < 10 → (Utf8.encode (IntKind.i32.wrap (48 + ((d:Nat):Int)))).data.toList = [UInt8.ofNat (48 + d)]:=by decide +kernel
 exact key d h2
def FA (N m:Nat) (t:List UInt8):Prop:=(if m = 0 then t else Lib.decDigits m ++ t) = Lib.decDigits N
theorem Yz (n:Nat):FA n (n / 10) [UInt8.ofNat (48 + n % 10)]:=by
 unfold FA
 by_cases h:n < 10
 ·rw [if_pos (by omega),Lib.decDigits_one h,show n % 10 = n by omega]
 ·rw [if_neg (by omega), ← Ms h]
theorem Sg {N m:Nat} {t:List UInt8} (h:FA N m t) (hm:0 < m):FA N (m / 10) ([UInt8.ofNat (48 + m % 10)] ++ t):=by
 unfold FA at h ⊢
 rw [if_neg (by omega)] at h
 by_cases h10:m < 10
 ·rw [if_pos (by omega), ← h,Lib.decDigits_one h10,show m % 10 = m by omega]
 ·rw [if_neg (by omega), ← h,Ms h10,List.append_assoc]
set_option maxHeartbeats 4000000 in
theorem QF (n:Nat) (hn:n ≤ 1000000000):B3 Tryz.prog 44 [.i n] (.str (Lib.itoa n)):=by
 have hlen:=Lib.itoa_length_le n (by omega) (by omega)
 rw [Lib.itoa_nonneg] at hlen ⊢
 have hr:=Mt n
 refine F3 Tryz.func44 23 fun hrd E h0=>?_
 clear hrd
 repeat' ((first | (refine G7 ?_ ?_;(rw [Int.tmod_eq_emod_of_nonneg (Int.natCast_nonneg _)];omega)) | (refine G7 ?_ ?_;(rw [Int.tdiv_eq_ediv_of_nonneg (Int.natCast_nonneg _)];omega)) |refine A1 ?_|refine S1 ?_|refine Z1 ?_|refine Z2 ?_|(refine And.intro ?_ ?_<;>intro h<;>try first|(exfalso;omega)|exact absurd rfl h)|refine Z3 ?_|refine Z4 ?_|intro el hel hbB|intro el hel|intro ex|refine Z5 ?_|(refine A6 ?_ ?_;exact ⟨by kernel_rfl,by decide⟩)|refine A5 ?_ ?_|exact A4|refine A3 ?_ ?_|exact A2|(refine A0 ?_ ?_ ?_;kernel_rfl;kernel_rfl)) <;> (try (conv=>whnf)))
 refine C5 (ι:=Nat × List UInt8) (fun x=>⟨[(0, .i x.1),(3, .str x.2)],0,[]⟩) (fun x=>x.1 ≤ n ∧ FA n x.1 x.2) (fun x=>x.1) (n / 10,[UInt8.ofNat (48 + n % 10)]) ⟨Nat.div_le_self _ _,Yz n⟩
  (A8 h0 rfl ⟨congrArg (fun z=>some (AV.i z)) (Zl n),congrArg (fun z=>some (AV.str z)) hr,trivial⟩ trivial rfl rfl rfl) (fun x hI=>?_)
 obtain ⟨m,t⟩:=x
 obtain ⟨hm,hI⟩:=hI
 dsimp only at hm hI
 by_cases hpos:0 < m
 ·have hst:=Sg hI hpos
  have hrm:=Mt m
  have htl:t.length ≤ 21:=by
   unfold FA at hI
   rw [if_neg (by omega)] at hI
   rw [← hI,List.length_append] at hlen
   omega
  dsimp only
  rw [← hrm] at hst
  have hel:(Utf8.encode (IntKind.i32.wrap (48 + (m:Int).tmod 10))).data.toList.length = 1:=by rw [hrm];rfl
  repeat' ((first | (refine G7 ?_ ?_;(rw [Int.tmod_eq_emod_of_nonneg (Int.natCast_nonneg _)];omega)) | (refine G7 ?_ ?_;(rw [Int.tdiv_eq_ediv_of_nonneg (Int.natCast_nonneg _)];omega)) | (refine G7 ?_ ?_;(rw [hel];omega)) |refine A1 ?_|refine S1 ?_|refine Z1 ?_|refine Z2 ?_|(refine And.intro ?_ ?_<;>intro h<;>try first|(exfalso;omega)|exact absurd rfl h)|refine Z3 ?_|refine Z4 ?_|intro el hel hbB|intro el hel|intro ex|refine Z5 ?_|(refine A6 ?_ ?_;exact ⟨by kernel_rfl,by decide⟩)|refine A5 ?_ ?_|exact A4|refine A3 ?_ ?_|exact A2|(refine A0 ?_ ?_ ?_;kernel_rfl;kernel_rfl)) <;> (try (conv=>whnf)))
  all_goals first
   | (exfalso;omega)
   | exact ⟨(m / 10,_),⟨by dsimp only;omega,hst⟩,by dsimp only;omega,A8 h0 rfl ⟨congrArg (fun z=>some (AV.i z)) (Zl m),rfl,trivial⟩ trivial rfl rfl rfl⟩
 ·obtain rfl:m = 0:=by omega
  unfold FA at hI
  rw [if_pos rfl] at hI
  rw [← hI]
  dsimp only
  repeat' ((first|refine A1 ?_|refine S1 ?_|refine Z1 ?_|refine Z2 ?_|(refine And.intro ?_ ?_<;>intro h<;>try first|(exfalso;omega)|exact absurd rfl h)|refine Z3 ?_|refine Z4 ?_|intro el hel hbB|intro el hel|intro ex|refine Z5 ?_|(refine A6 ?_ ?_;exact ⟨by kernel_rfl,by decide⟩)|refine A5 ?_ ?_|exact A4|refine A3 ?_ ?_|exact A2|(refine A0 ?_ ?_ ?_;kernel_rfl;kernel_rfl)) <;> (try (conv=>whnf)))
  all_goals first
   | (exfalso;omega)
   | exact B2 rfl rfl
end Go.Proofs.YtiphlhoclaogjabGreatDoor
namespace Go.Proofs.YtiphlhoclaogjabGreatDoor
open Go Go.Av
attribute [local irreducible] D1 B5 D5 D3 DQ D7 E0 St.le B3 B6
set_option maxRecDepth 100000
def BA (g:List UInt8):Nat → Nat
 | 0=>0
 | k + 1=>if g[k]? = some 10 then k + 1 else BA g k
theorem Oa (g:List UInt8):∀ k,BA g k ≤ k
 | 0=>Nat.le_refl _
 | k + 1=>by
   unfold BA
   split
   ·exact Nat.le_refl _
   ·exact Nat.le_trans (Oa g k) (Nat.le_succ _)
def BB (g:List UInt8):List UInt8:=g.take (BA g (g.length - 1))
def QG (g:List UInt8):List UInt8:=BB g ++ B7 (P6 (BB g))
theorem Si (p:List UInt8):[115,117,109,32] ++ p ++ [10] = B7 [Y6,p]:=by simp [B7,Lib.join_cons,Lib.joinTail]
set_option maxHeartbeats 4000000 in
theorem Nj (g:List UInt8) (hg:g.length ≤ 1000000000):B3 Tryz.prog 17 [.sl 1 (g.map R8)] (.str (QG g)):=by
 have hcl:=Oa g (g.length - 1)
 have hbl:(BB g).length ≤ 1000000000:=by unfold BB;rw [List.length_take];omega
 have hsm:=En (BB g) (by omega)
 have hb:=Iw (BB g) 7 (by decide)
 have hit:=QF (S5 (BB g) 7) (by omega)
 have hil:=Lib.itoa_length_le (S5 (BB g) 7:Nat) (by omega) (by omega)
 have hS:QG g = BB g ++ [115,117,109,32] ++ Lib.itoa (S5 (BB g) 7:Nat) ++ [10]:=by
  unfold QG P6
  rw [← Si]
  simp only [List.append_assoc]
 rw [hS]
 clear hS
 have hB:BB g = g.take (BA g (g.length - 1)):=rfl
 generalize Lib.itoa (S5 (BB g) 7:Nat) = im at *
 refine F3 Tryz.func17 32 fun hrd E h0=>?_
 clear hrd
 repeat' ((first|refine A1 ?_|refine S1 ?_|refine Z1 ?_|refine Z2 ?_|(refine And.intro ?_ ?_<;>intro h<;>try first|(exfalso;omega)|exact absurd rfl h)|refine Z3 ?_|refine Z4 ?_|intro el hel hbB|intro el hel|intro ex|refine Z5 ?_|(refine A6 ?_ ?_;exact ⟨by kernel_rfl,by decide⟩)|refine A5 ?_ ?_|exact A4|refine A3 ?_ ?_|exact A2|(refine A0 ?_ ?_ ?_;kernel_rfl;kernel_rfl)) <;> (try (conv=>whnf)))
 refine C5 (ι:=Nat) (fun k=>⟨[(3, .str g),(4, .i (BA g k)),(5, .i k)],0,[]⟩) (fun k=>k ≤ g.length - 1) (fun k=>g.length - 1 - k) 0 (Nat.zero_le _) (A8 h0 rfl ⟨rfl,rfl,rfl,trivial⟩ trivial rfl rfl rfl) (fun k hk=>?_)
 by_cases hlt:k < g.length - 1
 ·obtain ⟨c,hc⟩:∃ c,g[k]? = some c:=⟨_,List.getElem?_eq_getElem (by omega)⟩
  have h1:(c.toNat:Int) = 10 → BA g (k + 1) = k + 1:=fun h=>by
   have e:c = 10:=UInt8.toNat_inj.1 (by show c.toNat = 10;omega)
   unfold BA;rw [if_pos (by rw [hc,e])]
  have h2:¬ (c.toNat:Int) = 10 → BA g (k + 1) = BA g k:=fun h=>by
   rw [BA,if_neg (by rw [hc];intro e;exact h (by rw [Option.some.inj e];rfl))]
  repeat' ((first | (refine BF (x:=c) hc (by omega) ?_) | (refine A7 (x:=c) hc (by omega) ?_) |refine A1 ?_|refine S1 ?_|refine Z1 ?_|refine Z2 ?_|(refine And.intro ?_ ?_<;>intro h<;>try first|(exfalso;omega)|exact absurd rfl h)|refine Z3 ?_|refine Z4 ?_|intro el hel hbB|intro el hel|intro ex|refine Z5 ?_|(refine A6 ?_ ?_;exact ⟨by kernel_rfl,by decide⟩)|refine A5 ?_ ?_|exact A4|refine A3 ?_ ?_|exact A2|(refine A0 ?_ ?_ ?_;kernel_rfl;kernel_rfl)) <;> (try (conv=>whnf)))
  all_goals first
   | (exfalso;omega)
   | exact ⟨k + 1,by omega,by omega,A8 h0 rfl ⟨rfl,congrArg (fun z:Nat=>some (AV.i z)) (h1 (by assumption)).symm,rfl,trivial⟩ trivial rfl rfl rfl⟩
   | exact ⟨k + 1,by omega,by omega,A8 h0 rfl ⟨rfl,congrArg (fun z:Nat=>some (AV.i z)) (h2 (by assumption)).symm,rfl,trivial⟩ trivial rfl rfl rfl⟩
 ·obtain rfl:k = g.length - 1:=by omega
  generalize BA g (g.length - 1) = m at *
  rw [hB] at hsm hbl hit hb ⊢
  have hbl:(g.take m).length ≤ 1000000000:=hbl
  repeat' ((first | (refine G7 ?_ ?_;(show (g.take m).length + 4 ≤ _;omega)) | (refine G7 ?_ ?_;(show (g.take m ++ [115,117,109,32]).length + im.length ≤ _;simp only [List.length_append,List.length_cons,List.length_nil];omega)) | (refine G7 ?_ ?_;(show (g.take m ++ [115,117,109,32] ++ im).length + 1 ≤ _;simp only [List.length_append,List.length_cons,List.length_nil];omega)) | refine A9 hsm ?_ | refine A9 hit ?_ | (refine G3 ?_ ?_;kernel_rfl) |refine A1 ?_|refine S1 ?_|refine Z1 ?_|refine Z2 ?_|(refine And.intro ?_ ?_<;>intro h<;>try first|(exfalso;omega)|exact absurd rfl h)|refine Z3 ?_|refine Z4 ?_|intro el hel hbB|intro el hel|intro ex|refine Z5 ?_|(refine A6 ?_ ?_;exact ⟨by kernel_rfl,by decide⟩)|refine A5 ?_ ?_|exact A4|refine A3 ?_ ?_|exact A2|(refine A0 ?_ ?_ ?_;kernel_rfl;kernel_rfl)) <;> (try (conv=>whnf)))
  all_goals first
   | (exfalso;omega)
   | exact B2 rfl rfl
end Go.Proofs.YtiphlhoclaogjabGreatDoor
namespace Go.Proofs.YtiphlhoclaogjabGreatDoor
open Go Go.Av
attribute [local irreducible] D1 B5 D5 D3 DQ D7 E0 St.le B3 B6
set_option maxRecDepth 100000
set_option maxHeartbeats 16000000 in
theorem Sj (l:List UInt8) (raw:List UInt8) (at':Int) (b:UInt8) (hl:l.length ≤ maxLen):B3 Tryz.prog 4 [.sl 1 (l.map R8), .str raw, .i at', .v (.int .u8 b.toNat)] (.b true):=by
 unfold maxLen at hl
 have hb:=b.toNat_lt
 have hL:(l.take 400).length ≤ 400:=List.length_take_le _ _
 have hnew:=GP l (by omega)
 have hsrc:=Gg (l.take 400) 0 10 hL (by decide) (by decide)
 obtain ⟨hf,hlen⟩:=Gh (l.take 400) 0 10 (by decide) (by decide)
 generalize k7 (l.take 400) 0 10 = X at *
 obtain ⟨⟨s,rows⟩,a1⟩:=X
 generalize l.take 400 = t at *
 dsimp only at hsrc hf hlen
 have e1:=(T8 s rows).congr (congrArg (fun z:List UInt8 × Int=>AV.tup [.str z.1, .i z.2]) hf)
 dsimp only at e1
 have e2:=(BQ (O5 s rows)).congr (congrArg (fun z:(B8 × List (List Int)) × Nat × Int=>AV.tup [sA z.1.1, .sl 1 (z.1.2.map D8), .i z.2.1, .i z.2.2]) (VE hf))
 dsimp only at e2
 have e3:B3 Tryz.prog 15 [sA s, .sl 1 (rows.map D8),sA s, .sl 1 (rows.map D8)] (.b true):=(IK s rows s rows).congr (congrArg AV.b (decide_eq_true ⟨rfl,rfl,rfl⟩))
 have hgp:1 ≤ (O5 s rows).length:=by
  unfold O5
  rw [List.length_append]
  have:1 ≤ (B7 (P6 (F9 s rows))).length:=List.length_pos_iff.2 (d6 _)
  omega
 clear hf
 generalize O5 s rows = G at *
 have hmo:=Lm at' G.length (by omega)
 have hml:=W1 (k:=at') (n:=G.length) (by omega)
 generalize Df at' G.length = k at *
 obtain ⟨gk,hgk⟩:∃ el,G[k.toNat]? = some el:=⟨_,List.getElem?_eq_getElem (by omega)⟩
 have hcl:(G.set k.toNat b).length = G.length:=List.length_set
 have hsg:=Nj (G.set k.toNat b) (by omega)
 have hpar:=fun t:List UInt8=>BQ t
 have hpri:∀ t:List UInt8,(a8 t).2.2 = 0 → B3 Tryz.prog 10 [sA (a8 t).1.1, .sl 1 ((a8 t).1.2.map D8)] (.tup [.str t, .i 0]):=fun t h=>by
  have h2:=(Mm (t:=t) (n:=(a8 t).2.1) (x:=(a8 t).1) (by rw [← h])).2
  exact (T8 _ _).congr (congrArg (fun z:List UInt8 × Int=>AV.tup [.str z.1, .i z.2]) h2)
 have ha:=Ch
 generalize QG (G.set k.toNat b) = Y at *
 obtain ⟨V,hV⟩:∃ V:List (List UInt8),V = [raw,Y]:=⟨_,rfl⟩
 have hVl:V.length = 2:=by rw [hV];rfl
 refine F3 Tryz.func4 105 fun hrd E h0=>?_
 clear hrd
 repeat' ((first | refine X8 [] [] hnew rfl rfl rfl rfl rfl trivial rfl rfl rfl rfl rfl ?_ | refine A9 e1 ?_ | refine A9 e2 ?_ | refine A9 e3 ?_ | refine A9 hsg ?_ | refine A9 hmo ?_ | (refine A7 (x:=gk) hgk (by omega) ?_) | refine Jf (l:=G) rfl rfl (by omega) ?_ |refine A1 ?_|refine S1 ?_|refine Z1 ?_|refine Z2 ?_|(refine And.intro ?_ ?_<;>intro h<;>try first|(exfalso;omega)|exact absurd rfl h)|refine Z3 ?_|refine Z4 ?_|intro el hel hbB|intro el hel|intro ex|refine Z5 ?_|(refine A6 ?_ ?_;exact ⟨by kernel_rfl,by decide⟩)|refine A5 ?_ ?_|exact A4|refine A3 ?_ ?_|exact A2|(refine A0 ?_ ?_ ?_;kernel_rfl;kernel_rfl) | refine nc [0] [0] hsrc rfl rfl rfl ⟨rfl,trivial⟩ ?_ | refine VI (σ':=⟨[(72, .str raw),(73, .sl 1 ((G.set k.toNat b).map R8))],0,[]⟩) (A8 h0 rfl ⟨rfl,congrArg (fun z=>some (AV.sl 1 z)) (by rw [List.map_set];rfl),trivial⟩ trivial rfl rfl rfl) ?_) <;> (try (conv=>whnf)))
 all_goals first
  | exact B2 rfl rfl
  | (exfalso;omega)
  | skip
 clear e1 e2 e3 hsg hmo hsrc hnew
 refine C5 (ι:=Nat) (fun j=>⟨[(75, .sl 1 (V.map E2)),(76, .i 2),(77, .i j)],0,[]⟩) (fun j=>j ≤ 2) (fun j=>2 - j) 0 (Nat.zero_le _) (A8 h0 rfl ⟨by rw [hV];rfl,rfl,rfl,trivial⟩ trivial rfl rfl rfl) (fun j hj=>?_)
 clear hV
 by_cases hjt:j < 2
 ·obtain ⟨z,hz⟩:∃ z,V[j]? = some z:=⟨_,List.getElem?_eq_getElem (by omega)⟩
  have f1:=hpar z
  have f2:=hpri z
  generalize a8 z = Q at *
  obtain ⟨⟨s2,r2⟩,n2,e2⟩:=Q
  dsimp only at f1 f2
  repeat' ((first | (refine A7 (x:=z) hz (by omega) ?_) | refine A9 f1 ?_ | (refine A9 (f2 (by omega)) ?_) | (refine G3 ?_ ?_;kernel_rfl) |refine A1 ?_|refine S1 ?_|refine Z1 ?_|refine Z2 ?_|(refine And.intro ?_ ?_<;>intro h<;>try first|(exfalso;omega)|exact absurd rfl h)|refine Z3 ?_|refine Z4 ?_|intro el hel hbB|intro el hel|intro ex|refine Z5 ?_|(refine A6 ?_ ?_;exact ⟨by kernel_rfl,by decide⟩)|refine A5 ?_ ?_|exact A4|refine A3 ?_ ?_|exact A2|(refine A0 ?_ ?_ ?_;kernel_rfl;kernel_rfl)) <;> (try (conv=>whnf)))
  all_goals first
   | (exfalso;omega)
   | exact ⟨j + 1,by omega,by omega,A8 h0 rfl ⟨rfl,rfl,rfl,trivial⟩ trivial rfl rfl rfl⟩
   | contradiction
 ·repeat' ((first | refine A9 ha ?_ |refine A1 ?_|refine S1 ?_|refine Z1 ?_|refine Z2 ?_|(refine And.intro ?_ ?_<;>intro h<;>try first|(exfalso;omega)|exact absurd rfl h)|refine Z3 ?_|refine Z4 ?_|intro el hel hbB|intro el hel|intro ex|refine Z5 ?_|(refine A6 ?_ ?_;exact ⟨by kernel_rfl,by decide⟩)|refine A5 ?_ ?_|exact A4|refine A3 ?_ ?_|exact A2|(refine A0 ?_ ?_ ?_;kernel_rfl;kernel_rfl)) <;> (try (conv=>whnf)))
  all_goals first
   | (exfalso;omega)
   | exact B2 rfl rfl
theorem VL (l:List AV) (h:BU Tryz.prog Tryz.f4.params.toList l):B3 Tryz.prog 4 l (.b true):=by
 obtain ⟨a1,r1,rfl,h1,a0,r0,rfl,h4,a2,r2,rfl,h2,a3,r3,rfl,h3,rfl⟩:=h
 obtain ⟨l,hl,rfl⟩:=Ll h1
 obtain ⟨x,_,rfl⟩:=Vc h4
 obtain ⟨n,_,rfl⟩:=Vb h2
 obtain ⟨b,hb,rfl⟩:=Qy Tryz.underlying5 h3
 have e:b = (UInt8.ofNat b).toNat:=by simp;omega
 rw [e]
 exact Sj l x n (UInt8.ofNat b) hl
end Go.Proofs.YtiphlhoclaogjabGreatDoor
