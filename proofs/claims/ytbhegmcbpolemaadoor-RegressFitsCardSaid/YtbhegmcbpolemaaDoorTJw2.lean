/- Chapter 19: rows are drawn. -/
import Derived.Test.YtbhegmcbpolemaaDoorTJw1
import Derived.Test.YtbhegmcbpolemaaDoorTJw0
import Derived.Test.YtbhegmcbpolemaaDoorTGf0
set_option linter.unusedVariables false
set_option linter.unnecessarySimpa false
set_option linter.unusedSimpArgs false
namespace Go.Proofs.YtbhegmcbpolemaaDoor
open Go Go.Av
attribute [local irreducible] E4 B6 F1 E7 DQ F6 F9 St.le B5 D4
set_option maxRecDepth 100000
theorem X0 {P:Program} {E:Env} {n:Nat} {ops:Array Oper} {rest:List Oper} {σ:St} {K:St → Prop} {d:Option Nat} {T m t:Nat} {ty:TypeId} {pos:String} {after:Array Edge} {i ver len:Nat} (hx:Go.Av.look σ.sl t = some (.row i ver len)) (h:B6 P E n ops (⟨d, .buildSlice T m #[(0, .tmp t)],ty,pos,after,none⟩ :: rest) (σ.frz i) K) :
  B6 P E n ops (⟨d, .buildSlice T m #[(0, .tmp t)],ty,pos,after,none⟩ :: rest) σ K:=p4 (AK i) h
set_option maxHeartbeats 16000000 in
theorem Jx (l:List UInt8) (a:Nat) (hl:l.length ≤ 400):D4 Tryd.prog 8 1 (BW l a) [.ref 0 0] 2 [(0,some (.box [.sl 1 (l.map AU), .i (Y7 l a).2])),(1,some (.row 27 1 0 ((Y7 l a).1.map fun r=>[B8 r])))] (.row 1 0 (K7 l (K7 l a 2 4).2 1 9).1.toNat):=by
 have c1:=BM l a 2 4 hl (by decide) (by decide) (by decide)
 have b1:=u5 l a (lo:=2) (hi:=4) (by decide)
 have c2:=BM l (K7 l a 2 4).2 1 9 hl (by decide) (by decide) (by decide)
 have b2:=u5 l (K7 l a 2 4).2 (lo:=1) (hi:=9) (by decide)
 unfold Y7
 generalize K7 l (K7 l a 2 4).2 1 9 = K at *
 generalize K7 l a 2 4 = n at *
 obtain ⟨K,a2⟩:=K
 obtain ⟨n,a1⟩:=n
 dsimp only at *
 obtain ⟨n,rfl⟩:∃ m:Nat,n = m:=⟨n.toNat,by omega⟩
 obtain ⟨K,rfl⟩:∃ m:Nat,K = m:=⟨K.toNat,by omega⟩
 simp only [Int.toNat_natCast]
 have c3:=fun a=>BM l a (-9) 20 hl (by decide) (by decide) (by decide)
 have c4:=fun a=>NH l a 7 hl (by decide)
 have c5:=fun a=>BM l a (-900) 900 hl (by decide) (by decide) (by decide)
 refine FX Tryd.func8 38 fun E h0=>?_
 repeat' ((first | refine nc [0] [0] c1 rfl rfl rfl ⟨rfl,trivial⟩ ?_ | refine nc [0] [0] c2 rfl rfl rfl ⟨rfl,trivial⟩ ?_ |refine A5 ?_|refine S1 ?_|refine Z1 ?_|refine Z2 ?_|(refine And.intro ?_ ?_<;>intro h<;>try first|(exfalso;omega)|exact absurd rfl h)|refine Z3 ?_|refine Z4 ?_|intro el hel hbB|intro el hel|intro ex|refine Z5 ?_|(refine B0 ?_ ?_;exact ⟨by kernel_rfl,by decide⟩)|refine A9 ?_ ?_|exact A8|refine A7 ?_ ?_|exact A6|(refine A3 ?_ ?_ ?_;kernel_rfl;kernel_rfl)) <;> (try (conv=>whnf)))
 all_goals first
  | (exfalso;omega)
  | skip
 refine D7 (ι:=Nat) (fun j=>⟨[(0, .ref 0 0),(3, .i n),(4, .row 1 0 j),(5, .i ((K:Int) - j))],2,[(0,some (.box [.sl 1 (l.map AU), .i (L6 l n a2 j).2])),(1,some (.row 27 1 0 ((L6 l n a2 j).1.map fun r=>[B8 r])))]⟩) (fun j=>j ≤ K) (fun j=>K - j) 0 (Nat.zero_le _)
  (E0 (N0 (d:=4) (e:=27) (sz:=1) rfl) (B4 h0 rfl ⟨rfl,rfl,rfl,congrArg (fun z:Int=>some (AV.i z)) (by omega),trivial⟩ ⟨rfl,⟨_,rfl⟩,trivial⟩ rfl rfl rfl)) (fun j hj=>?_)
 by_cases hjk:j < K
 ·have hlt:((j:Nat):Int) < K:=by omega
  have hRl:=CH l n a2 j
  repeat' ((first|refine A5 ?_|refine S1 ?_|refine Z1 ?_|refine Z2 ?_|(refine And.intro ?_ ?_<;>intro h<;>try first|(exfalso;omega)|exact absurd rfl h)|refine Z3 ?_|refine Z4 ?_|intro el hel hbB|intro el hel|intro ex|refine Z5 ?_|(refine B0 ?_ ?_;exact ⟨by kernel_rfl,by decide⟩)|refine A9 ?_ ?_|exact A8|refine A7 ?_ ?_|exact A6|(refine A3 ?_ ?_ ?_;kernel_rfl;kernel_rfl)) <;> (try (conv=>whnf)))
  all_goals first
   | (exfalso;omega)
   | skip
  refine D7 (ι:=Nat) (fun i=>⟨[(0, .ref 0 0),(3, .i n),(4, .row 1 0 j),(5, .i ((K:Int) - j)),(6, .row 2 0 i),(7, .i i)],3,[(0,some (.box [.sl 1 (l.map AU), .i (I2 l (L6 l n a2 j).2 i).2])),(1,some (.row 27 1 0 ((L6 l n a2 j).1.map fun r=>[B8 r]))),(2,some (.row 3 1 0 ((I2 l (L6 l n a2 j).2 i).1.map C3)))]⟩) (fun i=>i ≤ n) (fun i=>n - i) 0 (Nat.zero_le _)
   (E0 (N0 (d:=6) (e:=3) (sz:=1) rfl) (B4 h0 rfl ⟨rfl,rfl,rfl,rfl,rfl,rfl,trivial⟩ ⟨rfl,⟨_,rfl⟩,⟨_,rfl⟩,trivial⟩ rfl rfl rfl)) (fun i hi=>?_)
  by_cases hin:i < n
  ·have hvl:=CG l (L6 l n a2 j).2 i
   have c3:=c3 (I2 l (L6 l n a2 j).2 i).2
   obtain ⟨R,hR⟩:∃ R,L6 l n a2 j = R:=⟨_,rfl⟩
   rw [hR] at c3 hvl hRl ⊢
   obtain ⟨R,a3⟩:=R
   dsimp only at *
   have hV:I2 l a3 (i + 1) = ((I2 l a3 i).1 ++ [(K7 l (I2 l a3 i).2 (-9) 20).1],(K7 l (I2 l a3 i).2 (-9) 20).2):=rfl
   obtain ⟨W,hW⟩:∃ W,I2 l a3 i = W:=⟨_,rfl⟩
   rw [hW] at c3 hvl hV ⊢
   obtain ⟨W,a4⟩:=W
   dsimp only at *
   generalize K7 l a4 (-9) 20 = z at *
   obtain ⟨z,a5⟩:=z
   dsimp only at *
   have hm:(W ++ [z]).map C3 = W.map C3 ++ [[.i z]]:=by rw [List.map_append];rfl
   repeat' ((first | refine nc [0] [0] c3 rfl rfl rfl ⟨rfl,trivial⟩ ?_ |refine A5 ?_|refine S1 ?_|refine Z1 ?_|refine Z2 ?_|(refine And.intro ?_ ?_<;>intro h<;>try first|(exfalso;omega)|exact absurd rfl h)|refine Z3 ?_|refine Z4 ?_|intro el hel hbB|intro el hel|intro ex|refine Z5 ?_|(refine B0 ?_ ?_;exact ⟨by kernel_rfl,by decide⟩)|refine A9 ?_ ?_|exact A8|refine A7 ?_ ?_|exact A6|(refine A3 ?_ ?_ ?_;kernel_rfl;kernel_rfl)) <;> (try (conv=>whnf)))
   all_goals first
    | (exfalso;omega)
    | exact ⟨i + 1,by omega,by omega,by rw [hV];exact B4 h0 rfl ⟨rfl,rfl,rfl,rfl,rfl,rfl,trivial⟩ ⟨rfl,⟨_,rfl⟩,⟨_,congrArg (D9.row 3 1 _) hm⟩,trivial⟩ rfl rfl rfl⟩
  ·have hnn:n = i:=by omega
   subst hnn
   have hvl:=CG l (L6 l n a2 j).2 n
   have hK:L6 l n a2 (j + 1) = ((L6 l n a2 j).1 ++ [(m7 l n (L6 l n a2 j).2).1],(m7 l n (L6 l n a2 j).2).2):=rfl
   obtain ⟨R,hR⟩:∃ R,L6 l n a2 j = R:=⟨_,rfl⟩
   rw [hR] at hvl hRl hK ⊢
   obtain ⟨R,a3⟩:=R
   dsimp only at *
   obtain ⟨V,hV⟩:∃ V,I2 l a3 n = V:=⟨_,rfl⟩
   have hD:m7 l n a3 = if ((R5 l (I2 l a3 n).2 7).1:Int) = 7 - 1 then ((I2 l a3 n).1.set 0 (1000 * (K7 l (R5 l (I2 l a3 n).2 7).2 (-900) 900).1),(K7 l (R5 l (I2 l a3 n).2 7).2 (-900) 900).2) else ((I2 l a3 n).1,(R5 l (I2 l a3 n).2 7).2):=rfl
   rw [hV] at hvl hD ⊢
   obtain ⟨V,a4⟩:=V
   dsimp only at *
   have c4:=c4 a4
   generalize R5 l a4 7 = o at *
   obtain ⟨o,a5⟩:=o
   dsimp only at *
   have c5:=c5 a5
   have b5:=u5 l a5 (lo:=-900) (hi:=900) (by decide)
   generalize K7 l a5 (-900) 900 = z at *
   obtain ⟨z,a6⟩:=z
   dsimp only at *
   by_cases ho:(o:Int) = 7 - 1
   ·rw [if_pos ho] at hD
    rw [hD] at hK
    rw [decide_eq_true ho] at c4
    obtain ⟨v0,hv0⟩:∃ v,V[0]? = some v:=⟨_,List.getElem?_eq_getElem (by omega)⟩
    have hcell:(V.map C3)[((((0:Int)).toNat:Nat):Int).toNat]? = some (C3 v0):=by rw [show ((((0:Int)).toNat:Nat):Int).toNat = 0 from rfl,List.getElem?_map,hv0];rfl
    have hvm:(V.map C3).length = n:=by rw [List.length_map];exact hvl
    have hX:((R ++ [V.set 0 (1000 * z)]).map fun r=>[B8 r]) = (R.map fun r=>[B8 r]) ++ [[.sl 1 ((V.map C3).set 0 [.i (1000 * z)])]]:=by
     rw [List.map_append, ← List.map_set]
     ·rfl
    repeat' ((first | refine nc [0] [0] c4 rfl rfl rfl ⟨rfl,trivial⟩ ?_ | refine nc [0] [0] c5 rfl rfl rfl ⟨rfl,trivial⟩ ?_ | (refine H9 (x:=C3 v0) hcell (by omega) ?_) | refine R3 (T:=27) rfl ?_ | refine X0 (T:=25) rfl ?_ |refine A5 ?_|refine S1 ?_|refine Z1 ?_|refine Z2 ?_|(refine And.intro ?_ ?_<;>intro h<;>try first|(exfalso;omega)|exact absurd rfl h)|refine Z3 ?_|refine Z4 ?_|intro el hel hbB|intro el hel|intro ex|refine Z5 ?_|(refine B0 ?_ ?_;exact ⟨by kernel_rfl,by decide⟩)|refine A9 ?_ ?_|exact A8|refine A7 ?_ ?_|exact A6|(refine A3 ?_ ?_ ?_;kernel_rfl;kernel_rfl)) <;> (try (conv=>whnf)))
    all_goals first
     | (exfalso;omega)
     | exact ⟨j + 1,by omega,by omega,by rw [hK];exact B4 h0 rfl ⟨rfl,rfl,rfl,congrArg (fun z:Int=>some (AV.i z)) (by omega),trivial⟩ ⟨rfl,⟨_,congrArg (D9.row 27 1 _) hX⟩,trivial⟩ rfl rfl rfl⟩
   ·rw [if_neg ho] at hD
    rw [hD] at hK
    rw [decide_eq_false ho] at c4
    have hX:((R ++ [V]).map fun r=>[B8 r]) = (R.map fun r=>[B8 r]) ++ [[.sl 1 (V.map C3)]]:=by
     rw [List.map_append];rfl
    repeat' ((first | refine nc [0] [0] c4 rfl rfl rfl ⟨rfl,trivial⟩ ?_ | refine R3 (T:=27) rfl ?_ | refine X0 (T:=25) rfl ?_ |refine A5 ?_|refine S1 ?_|refine Z1 ?_|refine Z2 ?_|(refine And.intro ?_ ?_<;>intro h<;>try first|(exfalso;omega)|exact absurd rfl h)|refine Z3 ?_|refine Z4 ?_|intro el hel hbB|intro el hel|intro ex|refine Z5 ?_|(refine B0 ?_ ?_;exact ⟨by kernel_rfl,by decide⟩)|refine A9 ?_ ?_|exact A8|refine A7 ?_ ?_|exact A6|(refine A3 ?_ ?_ ?_;kernel_rfl;kernel_rfl)) <;> (try (conv=>whnf)))
    all_goals first
     | (exfalso;omega)
     | exact ⟨j + 1,by omega,by omega,by rw [hK];exact B4 h0 rfl ⟨rfl,rfl,rfl,congrArg (fun z:Int=>some (AV.i z)) (by omega),trivial⟩ ⟨rfl,⟨_,congrArg (D9.row 27 1 _) hX⟩,trivial⟩ rfl rfl rfl⟩
 ·have hjj:j = K:=by omega
  subst hjj
  repeat' ((first|refine A5 ?_|refine S1 ?_|refine Z1 ?_|refine Z2 ?_|(refine And.intro ?_ ?_<;>intro h<;>try first|(exfalso;omega)|exact absurd rfl h)|refine Z3 ?_|refine Z4 ?_|intro el hel hbB|intro el hel|intro ex|refine Z5 ?_|(refine B0 ?_ ?_;exact ⟨by kernel_rfl,by decide⟩)|refine A9 ?_ ?_|exact A8|refine A7 ?_ ?_|exact A6|(refine A3 ?_ ?_ ?_;kernel_rfl;kernel_rfl)) <;> (try (conv=>whnf)))
  all_goals first
   | (exfalso;omega)
   | exact P3 (B4 h0 rfl ⟨rfl,rfl,trivial⟩ ⟨rfl,⟨_,rfl⟩,trivial⟩ rfl rfl rfl)
   | exact P3 (B4 h0 rfl ⟨rfl,trivial⟩ ⟨rfl,⟨_,rfl⟩,trivial⟩ rfl rfl rfl)
theorem IE (l:List UInt8) (a:Nat) (hl:l.length ≤ 400):D4 Tryd.prog 8 1 (BW l a) [.ref 0 0] 1 (BW l (Y7 l a).2) (B7 (Y7 l a).1) :=
 NN (Jx l a hl) rfl fun E h0=>B4 h0 rfl ⟨rfl,trivial⟩ ⟨rfl,trivial⟩ rfl rfl rfl
end Go.Proofs.YtbhegmcbpolemaaDoor
