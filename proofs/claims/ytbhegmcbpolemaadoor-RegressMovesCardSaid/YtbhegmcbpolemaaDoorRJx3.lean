/- RegressMoves: a number added to all left sides, and left sides times a number. -/
import Derived.Test.YtbhegmcbpolemaaDoorRJx6
import Derived.Test.YtbhegmcbpolemaaDoorRJx7
import Derived.Test.YtbhegmcbpolemaaDoorROp1
set_option linter.unusedVariables false
set_option linter.unnecessarySimpa false
set_option linter.unusedSimpArgs false
namespace Go.Proofs.YtbhegmcbpolemaaDoor
open Go Go.Av
attribute [local irreducible] E2 B3 F6 E9 DQ G2 H3 St.le B4 D7
set_option maxRecDepth 100000
def U8 (l:List UInt8) (n a:Nat):Nat → List (List Int) × Nat
 | 0=>([],a)
 | k + 1=>((U8 l n a k).1 ++ [(M3 l (U8 l n a k).2 n).1],(M3 l (U8 l n a k).2 n).2)
theorem Hk (l:List UInt8) (n a k:Nat):(U8 l n a k).1.length = k:=by
 induction k with
 | zero=>rfl
 | succ k ih=>rw [U8,List.length_append,ih];rfl
theorem Pi (l:List UInt8) (n a k:Nat):∀ r ∈ (U8 l n a k).1,r.length = n ∧ ∀ x ∈ r, -9 ≤ x ∧ x ≤ 20:=by
 induction k with
 | zero=>intro x hx;cases hx
 | succ k ih =>
   intro x hx
   rw [U8] at hx
   rcases List.mem_append.1 hx with h | h
   ·exact ih x h
   ·rw [List.mem_singleton.1 h];exact ⟨CO l _ n,Hi l _ n⟩
theorem MA {P:Program} {t:Nat} {a:AV} (ht:P.underlying t = some (.int .i8)) (h:Z7 P t a):∃ n:Int,(-128 ≤ n ∧ n ≤ 127) ∧ a = .v (.int .i8 n):=by
 obtain ⟨f,h⟩:=Ii (by simp [Ju,ht]) h
 obtain ⟨n,hw,e⟩:=LK ht h
 obtain ⟨h1,h2⟩:=LJ hw
 have e1:IntKind.min .i8 = -128:=by decide
 have e2:IntKind.max .i8 = 127:=by decide
 exact ⟨n,by omega,by simpa using e⟩
theorem RM (f:Int → Int) (r:List Int) (y z:Int) (hy:r[0]? = some y) (hz:f y = z):AV.sl 1 ([[AV.i z]] ++ (List.take ((r.map fun x=>[AV.i x]).length:Int).toNat (r.map fun x=>[AV.i x])).drop (Int.toNat 1)) = B8 (I7 f r):=by
 have hyg:r.getD 0 0 = y:=by rw [List.getD_eq_getElem?_getD,hy];rfl
 unfold I7
 rw [hyg,hz,Int.toNat_natCast,List.take_length]
 show AV.sl 1 ([AV.i z] :: List.drop 1 (r.map fun x=>[AV.i x])) = AV.sl 1 ([AV.i z] :: (r.drop 1).map fun x=>[AV.i x])
 rw [List.map_drop]
set_option maxHeartbeats 32000000 in
theorem MC (l:List UInt8) (hl:l.length ≤ maxLen) (a m:Int) (ha:-128 ≤ a ∧ a ≤ 127) (hm:-128 ≤ m ∧ m ≤ 127):B4 Tryd.prog 5 [.sl 1 (l.map Ad), .v (.int .i8 a), .v (.int .i8 m)] (.b true):=by
 unfold maxLen at hl
 have hL:(l.take 400).length ≤ 400:=List.length_take_le _ _
 have hnew:=Nf l (by omega)
 generalize l.take 400 = t at *
 have hwa:IntKind.i64.wrap a = a:=H5 (by omega)
 have hwm:IntKind.i64.wrap m = m:=H5 (by omega)
 have c1:=DX t 0 2 3 hL (by decide) (by decide) (by decide)
 have b1:=Hh t 0 (lo:=2) (hi:=3) (by decide)
 have c2:=DX t (X3 t 0 2 3).2 2 8 hL (by decide) (by decide) (by decide)
 have b2:=Hh t (X3 t 0 2 3).2 (lo:=2) (hi:=8) (by decide)
 generalize X3 t (X3 t 0 2 3).2 2 8 = K at *
 generalize X3 t 0 2 3 = n at *
 obtain ⟨K,a2⟩:=K
 obtain ⟨n,a1⟩:=n
 dsimp only at *
 obtain ⟨n,rfl⟩:∃ m:Nat,n = m:=⟨n.toNat,by omega⟩
 obtain ⟨K,rfl⟩:∃ m:Nat,K = m:=⟨K.toNat,by omega⟩
 have c3:=fun a=>DX t a (-9) 20 hL (by decide) (by decide) (by decide)
 have haw:=Hj
 refine E4 Tryd.func5 223 fun hrd E h0=>?_
 clear hrd
 repeat' ((first | refine CX [] [] hnew rfl rfl rfl rfl rfl trivial rfl rfl rfl rfl rfl ?_ | refine nc [0] [0] c1 rfl rfl rfl ⟨rfl,trivial⟩ ?_ | refine nc [0] [0] c2 rfl rfl rfl ⟨rfl,trivial⟩ ?_ |refine A6 ?_|refine S1 ?_|refine Z1 ?_|refine Z2 ?_|(refine And.intro ?_ ?_<;>intro h<;>try first|(exfalso;omega)|exact absurd rfl h)|refine Z3 ?_|refine Z4 ?_|intro el hel hbB|intro el hel|intro ex|refine Z5 ?_|(refine B2 ?_ ?_;exact ⟨by kernel_rfl,by decide⟩)|refine B0 ?_ ?_|exact A9|refine A8 ?_ ?_|exact A7|(refine A3 ?_ ?_ ?_;kernel_rfl;kernel_rfl)) <;> (try (conv=>whnf)))
 all_goals first
  | (exfalso;omega)
  | skip
 refine H2 (ι:=Nat) (fun j=>⟨[(1, .v (.int .i8 a)),(2, .v (.int .i8 m)),(7, .ref 0 0),(8, .row 1 0 j),(9, .row 2 0 j),(10, .row 3 0 j),(11, .i n),(12, .i ((K:Int) - j))],4,[(0,some (.box [.sl 1 (t.map Ad), .i (U8 t n a2 j).2])),(1,some (.row 27 1 0 ((U8 t n a2 j).1.map fun r=>[B8 r]))),(2,some (.row 27 1 0 ((U8 t n a2 j).1.map fun r=>[B8 (I7 (fun y=>y + a) r)]))),(3,some (.row 27 1 0 ((U8 t n a2 j).1.map fun r=>[B8 (I7 (fun y=>y * m) r)])))]⟩) (fun j=>j ≤ K) (fun j=>K - j) 0 (Nat.zero_le _)
  (D8 (U0 (d:=8) (e:=27) (sz:=1) rfl) (D8 (U0 (d:=9) (e:=27) (sz:=1) rfl) (D8 (U0 (d:=10) (e:=27) (sz:=1) rfl) (B5 h0 rfl ⟨rfl,rfl,rfl,rfl,rfl,rfl,rfl,congrArg (fun z:Int=>some (AV.i z)) (by omega),trivial⟩ ⟨rfl,⟨_,rfl⟩,⟨_,rfl⟩,⟨_,rfl⟩,trivial⟩ rfl rfl rfl)))) (fun j hj=>?_)
 by_cases hjk:j < K
 ·have hlt:((j:Nat):Int) < K:=by omega
  have hRl:=Hk t n a2 j
  have hK:U8 t n a2 (j + 1) = ((U8 t n a2 j).1 ++ [(M3 t (U8 t n a2 j).2 n).1],(M3 t (U8 t n a2 j).2 n).2):=rfl
  obtain ⟨R,hR⟩:∃ R,U8 t n a2 j = R:=⟨_,rfl⟩
  rw [hR] at hK hRl ⊢
  obtain ⟨R,a3⟩:=R
  dsimp only at *
  repeat' ((first|refine A6 ?_|refine S1 ?_|refine Z1 ?_|refine Z2 ?_|(refine And.intro ?_ ?_<;>intro h<;>try first|(exfalso;omega)|exact absurd rfl h)|refine Z3 ?_|refine Z4 ?_|intro el hel hbB|intro el hel|intro ex|refine Z5 ?_|(refine B2 ?_ ?_;exact ⟨by kernel_rfl,by decide⟩)|refine B0 ?_ ?_|exact A9|refine A8 ?_ ?_|exact A7|(refine A3 ?_ ?_ ?_;kernel_rfl;kernel_rfl)) <;> (try (conv=>whnf)))
  all_goals first
   | (exfalso;omega)
   | skip
  refine H2 (ι:=Nat) (fun i=>⟨[(1, .v (.int .i8 a)),(2, .v (.int .i8 m)),(7, .ref 0 0),(8, .row 1 0 j),(9, .row 2 0 j),(10, .row 3 0 j),(11, .i n),(12, .i ((K:Int) - j)),(13, .row 4 0 i),(14, .i i)],5,[(0,some (.box [.sl 1 (t.map Ad), .i (M3 t a3 i).2])),(1,some (.row 27 1 0 (R.map fun r=>[B8 r]))),(2,some (.row 27 1 0 (R.map fun r=>[B8 (I7 (fun y=>y + a) r)]))),(3,some (.row 27 1 0 (R.map fun r=>[B8 (I7 (fun y=>y * m) r)]))),(4,some (.row 3 1 0 ((M3 t a3 i).1.map D9)))]⟩) (fun i=>i ≤ n) (fun i=>n - i) 0 (Nat.zero_le _)
   (D8 (U0 (d:=13) (e:=3) (sz:=1) rfl) (B5 h0 rfl ⟨rfl,rfl,rfl,rfl,rfl,rfl,rfl,rfl,rfl,rfl,trivial⟩ ⟨rfl,⟨_,rfl⟩,⟨_,rfl⟩,⟨_,rfl⟩,⟨_,rfl⟩,trivial⟩ rfl rfl rfl)) (fun i hi=>?_)
  by_cases hin:i < n
  ·have hvl:=CO t a3 i
   have c3:=c3 (M3 t a3 i).2
   have hV:M3 t a3 (i + 1) = ((M3 t a3 i).1 ++ [(X3 t (M3 t a3 i).2 (-9) 20).1],(X3 t (M3 t a3 i).2 (-9) 20).2):=rfl
   obtain ⟨W,hW⟩:∃ W,M3 t a3 i = W:=⟨_,rfl⟩
   rw [hW] at c3 hvl hV ⊢
   obtain ⟨W,a4⟩:=W
   dsimp only at *
   generalize X3 t a4 (-9) 20 = z at *
   obtain ⟨z,a5⟩:=z
   dsimp only at *
   have hmm:(W ++ [z]).map D9 = W.map D9 ++ [[.i z]]:=by rw [List.map_append];rfl
   repeat' ((first | refine nc [0] [0] c3 rfl rfl rfl ⟨rfl,trivial⟩ ?_ |refine A6 ?_|refine S1 ?_|refine Z1 ?_|refine Z2 ?_|(refine And.intro ?_ ?_<;>intro h<;>try first|(exfalso;omega)|exact absurd rfl h)|refine Z3 ?_|refine Z4 ?_|intro el hel hbB|intro el hel|intro ex|refine Z5 ?_|(refine B2 ?_ ?_;exact ⟨by kernel_rfl,by decide⟩)|refine B0 ?_ ?_|exact A9|refine A8 ?_ ?_|exact A7|(refine A3 ?_ ?_ ?_;kernel_rfl;kernel_rfl)) <;> (try (conv=>whnf)))
   all_goals first
    | (exfalso;omega)
    | exact ⟨i + 1,by omega,by omega,by rw [hV];exact B5 h0 rfl ⟨rfl,rfl,rfl,rfl,rfl,rfl,rfl,rfl,rfl,rfl,trivial⟩ ⟨rfl,⟨_,rfl⟩,⟨_,rfl⟩,⟨_,rfl⟩,⟨_,congrArg (E3.row 3 1 _) hmm⟩,trivial⟩ rfl rfl rfl⟩
  ·have hnn:n = i:=by omega
   subst hnn
   have hvl:=CO t a3 n
   have hvb:=Hi t a3 n
   obtain ⟨V,hV⟩:∃ V,M3 t a3 n = V:=⟨_,rfl⟩
   rw [hV] at hvl hvb hK ⊢
   obtain ⟨V,a4⟩:=V
   dsimp only at *
   obtain ⟨y,hy⟩:∃ v,V[0]? = some v:=⟨_,List.getElem?_eq_getElem (by omega)⟩
   have hy2:V[((0:Int)).toNat]? = some y:=hy
   have hyb:=hvb y (List.mem_of_getElem? hy)
   have hmb:=N3 (A:=20) (B:=128) (a:=y) (b:=m) (by omega) (by omega)
   have hwy:IntKind.i64.wrap (y * m) = y * m:=H5 (by omega)
   have hIm:∀ (el:List AV),el ∈ List.drop (Int.toNat 1) (List.take ((V.map D9).length:Int).toNat (V.map D9)) → ∀ (u:AV),u ∈ el → M1 u:=fun el hel u hu=>by
    obtain ⟨x,_,rfl⟩:=List.mem_map.1 (List.mem_of_mem_take (List.mem_of_mem_drop hel))
    rw [List.mem_singleton.1 hu];exact AQ rfl
   have hSz:(1 + (List.drop (Int.toNat 1) (List.take ((V.map D9).length:Int).toNat (V.map D9))).length) * 8 ≤ 140737488355328 ∧ 1 + (List.drop (Int.toNat 1) (List.take ((V.map D9).length:Int).toNat (V.map D9))).length ≤ 9223372036854775807:=by
    have:(List.drop (Int.toNat 1) (List.take ((V.map D9).length:Int).toNat (V.map D9))).length ≤ n:=by
     rw [List.length_drop,List.length_take,List.length_map];omega
    omega
   have hX1:((R ++ [V]).map fun r=>[B8 r]) = (R.map fun r=>[B8 r]) ++ [[.sl 1 (V.map D9)]]:=by
    rw [List.map_append];rfl
   have hX2:((R ++ [V]).map fun r=>[B8 (I7 (fun y=>y + a) r)]) = (R.map fun r=>[B8 (I7 (fun y=>y + a) r)]) ++ [[AV.sl 1 ([[AV.i (y + a)]] ++ (List.take ((V.map fun x=>[AV.i x]).length:Int).toNat (V.map fun x=>[AV.i x])).drop (Int.toNat 1))]]:=by
    rw [List.map_append,RM (fun y=>y + a) V y (y + a) hy rfl];rfl
   have hX3:((R ++ [V]).map fun r=>[B8 (I7 (fun y=>y * m) r)]) = (R.map fun r=>[B8 (I7 (fun y=>y * m) r)]) ++ [[AV.sl 1 ([[AV.i (IntKind.i64.wrap (y * m))]] ++ (List.take ((V.map fun x=>[AV.i x]).length:Int).toNat (V.map fun x=>[AV.i x])).drop (Int.toNat 1))]]:=by
    rw [hwy,List.map_append,RM (fun y=>y * m) V y (y * m) hy rfl];rfl
   repeat' ((first | refine V1 hwa ?_ | refine V1 hwm ?_ | (refine B6 (x:=y) hy2 (by omega) ?_) | refine Gi hIm ?_ | refine Gi hSz ?_ | refine CI (T:=27) rfl ?_ | refine Nw (T:=25) rfl ?_ | refine DU 63 rfl ?_ | refine DU 76 rfl ?_ | (refine m6 (id:=13) ⟨[(1, .v (.int .i8 a)),(2, .v (.int .i8 m)),(7, .ref 0 0),(8, .row 1 0 (j + 1)),(9, .row 2 0 (j + 1)),(10, .row 3 0 j),(11, .i n),(12, .i ((K:Int) - j)),(13,B8 V)],4,[(0,some (.box [.sl 1 (t.map Ad), .i a4])),(1,some (.row 27 1 0 ((R ++ [V]).map fun r=>[B8 r]))),(2,some (.row 27 1 0 ((R ++ [V]).map fun r=>[B8 (I7 (fun y=>y + a) r)]))),(3,some (.row 27 1 0 (R.map fun r=>[B8 (I7 (fun y=>y * m) r)])))]⟩ ?_ ?_) | (refine m6 (id:=14) ⟨[(1, .v (.int .i8 a)),(2, .v (.int .i8 m)),(7, .ref 0 0),(8, .row 1 0 (j + 1)),(9, .row 2 0 (j + 1)),(10, .row 3 0 (j + 1)),(11, .i n),(12, .i ((K:Int) - j)),(13,B8 V)],4,[(0,some (.box [.sl 1 (t.map Ad), .i a4])),(1,some (.row 27 1 0 ((R ++ [V]).map fun r=>[B8 r]))),(2,some (.row 27 1 0 ((R ++ [V]).map fun r=>[B8 (I7 (fun y=>y + a) r)]))),(3,some (.row 27 1 0 ((R ++ [V]).map fun r=>[B8 (I7 (fun y=>y * m) r)])))]⟩ ?_ ?_) |refine A6 ?_|refine S1 ?_|refine Z1 ?_|refine Z2 ?_|(refine And.intro ?_ ?_<;>intro h<;>try first|(exfalso;omega)|exact absurd rfl h)|refine Z3 ?_|refine Z4 ?_|intro el hel hbB|intro el hel|intro ex|refine Z5 ?_|(refine B2 ?_ ?_;exact ⟨by kernel_rfl,by decide⟩)|refine B0 ?_ ?_|exact A9|refine A8 ?_ ?_|exact A7|(refine A3 ?_ ?_ ?_;kernel_rfl;kernel_rfl)) <;> (try (conv=>whnf)))
   all_goals first
    | (exfalso;omega)
    | exact B5 h0 rfl ⟨rfl,rfl,rfl,rfl,rfl,rfl,rfl,rfl,rfl,trivial⟩ ⟨rfl,⟨_,congrArg (E3.row 27 1 _) hX1⟩,⟨_,congrArg (E3.row 27 1 _) hX2⟩,⟨_,rfl⟩,trivial⟩ rfl rfl rfl
    | exact B5 h0 rfl ⟨rfl,rfl,rfl,rfl,rfl,rfl,rfl,rfl,rfl,trivial⟩ ⟨rfl,⟨_,rfl⟩,⟨_,rfl⟩,⟨_,congrArg (E3.row 27 1 _) hX3⟩,trivial⟩ rfl rfl rfl
    | exact ⟨j + 1,by omega,by omega,by rw [hK];exact B5 h0 rfl ⟨rfl,rfl,rfl,rfl,rfl,rfl,rfl,congrArg (fun z:Int=>some (AV.i z)) (by omega),trivial⟩ ⟨rfl,⟨_,rfl⟩,⟨_,rfl⟩,⟨_,rfl⟩,trivial⟩ rfl rfl rfl⟩
 have hjj:K = j:=by omega
 subst hjj
 have hRl:=Hk t n a2 K
 have hRo:=Pi t n a2 K
 generalize U8 t n a2 K = R at *
 obtain ⟨R,a8⟩:=R
 dsimp only at *
 have hmv:=PU (R:=R) (n:=n) (a:=a) (t:=m) (by omega) (by omega) hRo ha hm
 have e2:(R.map fun r=>[B8 (I7 (fun y=>y + a) r)]) = (R.map (I7 fun y=>y + a)).map fun r=>[B8 r]:=by rw [List.map_map];rfl
 have e3:(R.map fun r=>[B8 (I7 (fun y=>y * m) r)]) = (R.map (I7 fun y=>y * m)).map fun r=>[B8 r]:=by rw [List.map_map];rfl
 rw [e2,e3]
 have l2:(R.map (I7 fun y=>y + a)).length = K:=by rw [List.length_map,hRl]
 have l3:(R.map (I7 fun y=>y * m)).length = K:=by rw [List.length_map,hRl]
 generalize R.map (I7 fun y=>y + a) = R2 at *
 generalize R.map (I7 fun y=>y * m) = R3 at *
 clear e2 e3 hRo c1 c2 c3 hnew
 have c1:=w4 R
 have c2:=w4 R2
 have c3:=w4 R3
 refine Y4 (B5 (σ':=⟨[(1, .v (.int .i8 a)),(2, .v (.int .i8 m)),(8,D1 R),(9,D1 R2),(10,D1 R3),(12, .i ((K:Int) - K))],0,[]⟩) h0 rfl ⟨rfl,rfl,rfl,rfl,rfl,rfl,trivial⟩ trivial rfl rfl rfl) ?_
 rcases hmv with ⟨f1,f2,f3⟩ | ⟨M,P,Q,f1,f2,f3,hpr,hpt,ml,pl,ql,hco,hres⟩
 ·generalize O2 R = F1 at *
  generalize O2 R2 = F2 at *
  generalize O2 R3 = F3 at *
  obtain ⟨e1,cf1,⟨r1,r1'⟩,⟨t1,t1'⟩,cn1,fr1⟩:=F1
  obtain ⟨e2,cf2,⟨r2,r2'⟩,⟨t2,t2'⟩,cn2,fr2⟩:=F2
  obtain ⟨e3,cf3,⟨r3,r3'⟩,⟨t3,t3'⟩,cn3,fr3⟩:=F3
  dsimp only at f1 f2 f3
  subst f1 f2 f3
  repeat' ((first | refine A5 c1 ?_ | refine A5 c2 ?_ | refine A5 c3 ?_ | refine A5 haw ?_ |refine A6 ?_|refine S1 ?_|refine Z1 ?_|refine Z2 ?_|(refine And.intro ?_ ?_<;>intro h<;>try first|(exfalso;omega)|exact absurd rfl h)|refine Z3 ?_|refine Z4 ?_|intro el hel hbB|intro el hel|intro ex|refine Z5 ?_|(refine B2 ?_ ?_;exact ⟨by kernel_rfl,by decide⟩)|refine B0 ?_ ?_|exact A9|refine A8 ?_ ?_|exact A7|(refine A3 ?_ ?_ ?_;kernel_rfl;kernel_rfl)) <;> (try (conv=>whnf)))
  all_goals first
   | (exfalso;omega)
   | exact C2 rfl rfl
 rw [f1] at c1
 rw [f2] at c2
 rw [f3] at c3
 obtain ⟨mc,⟨r1,r1'⟩,⟨t1,t1'⟩,cn1,fr1⟩:=M
 obtain ⟨pc,⟨r2,r2'⟩,⟨t2,t2'⟩,cn2,fr2⟩:=P
 obtain ⟨qc,⟨r3,r3'⟩,⟨t3,t3'⟩,cn3,fr3⟩:=Q
 dsimp only at *
 cases hpr
 cases hpt
 have mml:(mc.map AD).length = n:=by rw [List.length_map,ml]
 have pml:(pc.map AD).length = n:=by rw [List.length_map,pl]
 have qml:(qc.map AD).length = n:=by rw [List.length_map,ql]
 repeat' ((first | refine A5 c1 ?_ | refine A5 c2 ?_ | refine A5 c3 ?_ | (refine Q4 ?_ ?_;kernel_rfl) |refine A6 ?_|refine S1 ?_|refine Z1 ?_|refine Z2 ?_|(refine And.intro ?_ ?_<;>intro h<;>try first|(exfalso;omega)|exact absurd rfl h)|refine Z3 ?_|refine Z4 ?_|intro el hel hbB|intro el hel|intro ex|refine Z5 ?_|(refine B2 ?_ ?_;exact ⟨by kernel_rfl,by decide⟩)|refine B0 ?_ ?_|exact A9|refine A8 ?_ ?_|exact A7|(refine A3 ?_ ?_ ?_;kernel_rfl;kernel_rfl)) <;> (try (conv=>whnf)))
 all_goals first
  | (exfalso;omega)
  | (exfalso;rename_i h;exact h ⟨rfl,rfl⟩)
  | (exfalso;rename_i h;dsimp only at h;omega)
  | skip
 refine H2 (ι:=Nat) (fun k=>⟨[(1, .v (.int .i8 a)),(2, .v (.int .i8 m)),(15, .ref 0 0),(17, .ref 1 0),(19, .ref 2 0),(151, .i n),(152, .i k)],3,[(0,some (.box (n5 ⟨mc,(r1,r1'),(t1,t1'),cn1,fr1⟩))),(1,some (.box (n5 ⟨pc,(r1,r1'),(t1,t1'),cn2,fr2⟩))),(2,some (.box (n5 ⟨qc,(r3,r3'),(t3,t3'),cn3,fr3⟩)))]⟩) (fun k=>k ≤ n) (fun k=>n - k) 0 (Nat.zero_le _)
  (B5 h0 rfl ⟨rfl,rfl,rfl,rfl,rfl,congrArg (fun z:Int=>some (AV.i z)) (by simp [ml]),rfl,trivial⟩ ⟨rfl,rfl,rfl,trivial⟩ rfl rfl rfl) (fun k hk=>?_)
 by_cases hkn:k < n
 ·obtain ⟨⟨x1,x2⟩,hx⟩:∃ x,mc[k]? = some x:=⟨_,List.getElem?_eq_getElem (by omega)⟩
  obtain ⟨hp,hq⟩:=hco k _ hx
  have hx2:mc[((k:Nat):Int).toNat]? = some (x1,x2):=hx
  have d1:=Nc (x1,x2) (if k = 0 then a else 0,1)
  have d2:=HZ (x1,x2) (m,1)
  generalize HT (x1,x2) (if k = 0 then a else 0,1) = A1 at *
  generalize HU (x1,x2) (m,1) = A2 at *
  obtain ⟨q1,u1,u2⟩:=A1
  obtain ⟨q2,v1,v2⟩:=A2
  dsimp only at hp hq
  have hp2:pc[((k:Nat):Int).toNat]? = some (u1,u2):=hp
  have hq2:qc[((k:Nat):Int).toNat]? = some (v1,v2):=hq
  by_cases hk0:k = 0
  ·rw [if_pos hk0] at d1
   repeat' ((first | refine V1 hwa ?_ | refine V1 hwm ?_ | refine A5 d1 ?_ | refine A5 d2 ?_ | (refine B6 (x:=(x1,x2)) hx2 (by omega) ?_) | (refine B6 (x:=(u1,u2)) hp2 (by omega) ?_) | (refine B6 (x:=(v1,v2)) hq2 (by omega) ?_) | (refine I1 (id:=28) ⟨[(1, .v (.int .i8 a)),(2, .v (.int .i8 m)),(15, .ref 0 0),(17, .ref 1 0),(19, .ref 2 0),(21, .i k),(151, .i n),(152, .i k),(23, .ref 4 0)],5,[(0,some (.box (n5 ⟨mc,(r1,r1'),(t1,t1'),cn1,fr1⟩))),(1,some (.box (n5 ⟨pc,(r1,r1'),(t1,t1'),cn2,fr2⟩))),(2,some (.box (n5 ⟨qc,(r3,r3'),(t3,t3'),cn3,fr3⟩))),(4,some (.box [.i u1, .i u2]))]⟩ ?_ ?_) | (refine Q4 ?_ ?_;kernel_rfl) |refine A6 ?_|refine S1 ?_|refine Z1 ?_|refine Z2 ?_|(refine And.intro ?_ ?_<;>intro h<;>try first|(exfalso;omega)|exact absurd rfl h)|refine Z3 ?_|refine Z4 ?_|intro el hel hbB|intro el hel|intro ex|refine Z5 ?_|(refine B2 ?_ ?_;exact ⟨by kernel_rfl,by decide⟩)|refine B0 ?_ ?_|exact A9|refine A8 ?_ ?_|exact A7|(refine A3 ?_ ?_ ?_;kernel_rfl;kernel_rfl)) <;> (try (conv=>whnf)))
   all_goals first
    | (exfalso;omega)
    | (exfalso;rename_i h;exact h ⟨rfl,rfl⟩)
    | exact B5 h0 rfl ⟨rfl,rfl,rfl,rfl,rfl,rfl,rfl,rfl,rfl,trivial⟩ ⟨rfl,rfl,rfl,rfl,trivial⟩ rfl rfl rfl
    | exact ⟨k + 1,by omega,by omega,B5 h0 rfl ⟨rfl,rfl,rfl,rfl,rfl,rfl,rfl,trivial⟩ ⟨rfl,rfl,rfl,trivial⟩ rfl rfl rfl⟩
  ·rw [if_neg hk0] at d1
   repeat' ((first | refine V1 hwa ?_ | refine V1 hwm ?_ | refine A5 d1 ?_ | refine A5 d2 ?_ | (refine B6 (x:=(x1,x2)) hx2 (by omega) ?_) | (refine B6 (x:=(u1,u2)) hp2 (by omega) ?_) | (refine B6 (x:=(v1,v2)) hq2 (by omega) ?_) | (refine I1 (id:=28) ⟨[(1, .v (.int .i8 a)),(2, .v (.int .i8 m)),(15, .ref 0 0),(17, .ref 1 0),(19, .ref 2 0),(21, .i k),(151, .i n),(152, .i k),(23, .ref 4 0)],5,[(0,some (.box (n5 ⟨mc,(r1,r1'),(t1,t1'),cn1,fr1⟩))),(1,some (.box (n5 ⟨pc,(r1,r1'),(t1,t1'),cn2,fr2⟩))),(2,some (.box (n5 ⟨qc,(r3,r3'),(t3,t3'),cn3,fr3⟩))),(4,some (.box [.i u1, .i u2]))]⟩ ?_ ?_) | (refine Q4 ?_ ?_;kernel_rfl) |refine A6 ?_|refine S1 ?_|refine Z1 ?_|refine Z2 ?_|(refine And.intro ?_ ?_<;>intro h<;>try first|(exfalso;omega)|exact absurd rfl h)|refine Z3 ?_|refine Z4 ?_|intro el hel hbB|intro el hel|intro ex|refine Z5 ?_|(refine B2 ?_ ?_;exact ⟨by kernel_rfl,by decide⟩)|refine B0 ?_ ?_|exact A9|refine A8 ?_ ?_|exact A7|(refine A3 ?_ ?_ ?_;kernel_rfl;kernel_rfl)) <;> (try (conv=>whnf)))
   all_goals first
    | (exfalso;omega)
    | (exfalso;rename_i h;exact h ⟨rfl,rfl⟩)
    | exact B5 h0 rfl ⟨rfl,rfl,rfl,rfl,rfl,rfl,rfl,rfl,rfl,trivial⟩ ⟨rfl,rfl,rfl,rfl,trivial⟩ rfl rfl rfl
    | exact ⟨k + 1,by omega,by omega,B5 h0 rfl ⟨rfl,rfl,rfl,rfl,rfl,rfl,rfl,trivial⟩ ⟨rfl,rfl,rfl,trivial⟩ rfl rfl rfl⟩
 ·have d3:=HZ (r1,r1') (m * m,1)
  rw [hres] at d3
  have hmm:=N3 (A:=128) (B:=128) (a:=m) (b:=m) (by omega) (by omega)
  have hw2:IntKind.i64.wrap (m * m) = m * m:=H5 (by omega)
  repeat' ((first | refine V1 hwa ?_ | refine V1 hwm ?_ | refine A5 d3 ?_ | refine A5 haw ?_ | (refine Q4 ?_ ?_;kernel_rfl) |refine A6 ?_|refine S1 ?_|refine Z1 ?_|refine Z2 ?_|(refine And.intro ?_ ?_<;>intro h<;>try first|(exfalso;omega)|exact absurd rfl h)|refine Z3 ?_|refine Z4 ?_|intro el hel hbB|intro el hel|intro ex|refine Z5 ?_|(refine B2 ?_ ?_;exact ⟨by kernel_rfl,by decide⟩)|refine B0 ?_ ?_|exact A9|refine A8 ?_ ?_|exact A7|(refine A3 ?_ ?_ ?_;kernel_rfl;kernel_rfl)) <;> (try (conv=>whnf)))
  all_goals first
   | (exfalso;omega)
   | (exfalso;rename_i h;exact h ⟨rfl,rfl⟩)
   | exact C2 rfl rfl
theorem Nx (l:List AV) (h:CZ Tryd.prog Tryd.f5.params.toList l):B4 Tryd.prog 5 l (.b true):=by
 obtain ⟨a1,r1,rfl,h1,a2,r2,rfl,h2,a3,r3,rfl,h3,rfl⟩:=h
 obtain ⟨l,hl,rfl⟩:=Qj h1
 obtain ⟨a,ha,rfl⟩:=MA (by kernel_rfl) h2
 obtain ⟨m,hm,rfl⟩:=MA (by kernel_rfl) h3
 exact MC l hl a m ha hm
end Go.Proofs.YtbhegmcbpolemaaDoor
