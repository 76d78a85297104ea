/- The program's determinant: a closure that calls itself. -/
import Derived.Test.YtbhegmcbpolemaaDoorSJr5
set_option linter.unusedVariables false
set_option linter.unnecessarySimpa false
set_option linter.unusedSimpArgs false
namespace Go.Proofs.YtbhegmcbpolemaaDoor
open Go Go.Av
attribute [local irreducible] E3 B5 F2 F0 DQ F5 G8 St.le B6 D3
set_option maxRecDepth 100000
abbrev C2 (r:List Int):AV:=.sl 1 (r.map fun x=>[.i x])
abbrev C3 (M:List (List Int)):AV:=.sl 1 (M.map fun r=>[C2 r])
abbrev P2 (b:Bool):List AV:=[.b b]
def FJ (M:List (List Int)):E0:=.box [.fo 65 [.iptr [C3 M], .ref 0 0, .ref 1 0, .ref 3 0]]
instance:G2 Tryd.prog 95 false 1:=.of (by kernel_rfl) (by kernel_rfl)
def n9 (a:Nat → Nat → Int) (m row:Nat) (F:List Nat) (c:Nat):Int:=B7 c fun j=>I7 j * a row (F.getD j 0) * Aa a m (row + 1) (F.eraseIdx j)
set_option maxHeartbeats 16000000 in
theorem KD (M:List (List Int)) (n:Nat) (hM:M.length = n) (hr:∀ r ∈ M,r.length = n) (hn:n ≤ 1000) (hx:∀ r ∈ M,∀ x ∈ r, -9223372036854775808 ≤ x ∧ x ≤ 9223372036854775807) :
  ∀ (m row:Nat) (tk:List Bool) (s p:Int),row + m = n → tk.length = n → (N2 tk).length = m →
  D3 Tryd.prog 65 4 [(0,some (.box (G0 s))),(1,some (.box [.row 2 0 n])),(2,some (.row 4 1 0 (tk.map P2))),(3,some (FJ M))] [.i row,H9 p, .iptr [C3 M], .ref 0 0, .ref 1 0, .ref 3 0]
   4 [(0,some (.box (G0 (s + p * Aa (P6 M) m row (N2 tk))))),(1,some (.box [.row 2 0 n])),(2,some (.row 4 1 0 (tk.map P2))),(3,some (FJ M))] (.tup []):=by
 intro m
 induction m with
 | zero =>
   intro row tk s p hrow htk hf
   have h1:=AK s p
   rw [Aa,Int.mul_one]
   have hrn:row = n:=by omega
   subst hrn
   unfold FJ
   refine Fp Tryd.func65 50 fun E h0=>?_
   repeat' ((first | refine A4 h1 ?_ |refine A6 ?_|refine S1 ?_|refine Z1 ?_|refine Z2 ?_|(refine And.intro ?_ ?_<;>intro h<;>try first|(exfalso;omega)|exact absurd rfl h)|refine Z3 ?_|refine Z4 ?_|intro el hel hbB|intro el hel|intro ex|refine Z5 ?_|(refine B2 ?_ ?_;exact ⟨by kernel_rfl,by decide⟩)|refine B0 ?_ ?_|exact A9|refine A8 ?_ ?_|exact A7|(refine A3 ?_ ?_ ?_;kernel_rfl;kernel_rfl)) <;> (try (conv=>whnf)))
   all_goals first
    | (exfalso;simp only [List.length_map] at *;omega)
    | (delta G8;exact .inl ⟨[],[],rfl,trivial,rfl,rfl,B3 h0 rfl trivial ⟨rfl,rfl,⟨_,rfl⟩,rfl,trivial⟩ rfl rfl rfl,rfl⟩)
 | succ m ih =>
   intro row tk s p hrow htk hf
   have hrl:row < M.length:=by omega
   obtain ⟨R,hR⟩:∃ R,M[row]? = some R:=⟨_,List.getElem?_eq_getElem hrl⟩
   have hRl:R.length = n:=hr R (List.mem_of_getElem? hR)
   have hR2:M[((row:Nat):Int).toNat]? = some R:=hR
   refine Fp Tryd.func65 50 fun E h0=>?_
   repeat' ((first | (refine B4 (x:=R) hR2 (by omega) ?_) |refine A6 ?_|refine S1 ?_|refine Z1 ?_|refine Z2 ?_|(refine And.intro ?_ ?_<;>intro h<;>try first|(exfalso;omega)|exact absurd rfl h)|refine Z3 ?_|refine Z4 ?_|intro el hel hbB|intro el hel|intro ex|refine Z5 ?_|(refine B2 ?_ ?_;exact ⟨by kernel_rfl,by decide⟩)|refine B0 ?_ ?_|exact A9|refine A8 ?_ ?_|exact A7|(refine A3 ?_ ?_ ?_;kernel_rfl;kernel_rfl)) <;> (try (conv=>whnf)))
   all_goals first
    | (exfalso;simp only [List.length_map] at *;omega)
    | skip
   refine F4 (ι:=Nat) (fun k=>⟨[(0, .i row),(2, .iptr [C3 M]),(3, .ref 0 0),(4, .ref 1 0),(5, .ref 3 0),(7, .ref 4 0),(20,C2 R),(21, .i R.length),(22, .i k)],5,[(0,some (.box (G0 (s + p * n9 (P6 M) m row (N2 tk) (M0 tk k))))),(1,some (.box [.row 2 0 n])),(2,some (.row 4 1 0 (tk.map P2))),(3,some (FJ M)),(4,some (.box (G0 (I7 (M0 tk k) * p))))]⟩) (fun k=>k ≤ n) (fun k=>n - k) 0 (Nat.zero_le _)
    (B3 h0 rfl ⟨rfl,rfl,rfl,rfl,rfl,rfl,rfl,rfl,rfl,trivial⟩ ⟨congrArg (fun z=>E0.box (G0 z)) (by simp [n9,M0,B7]),rfl,⟨_,rfl⟩,rfl,congrArg (fun z=>E0.box (G0 z)) (by simp [M0,I7]),trivial⟩ rfl rfl rfl) (fun k hk=>?_)
   by_cases hkn:k < n
   ·obtain ⟨x,hxk⟩:∃ x,R[k]? = some x:=⟨_,List.getElem?_eq_getElem (by omega)⟩
    obtain ⟨b,hbk⟩:∃ b,tk[k]? = some b:=⟨_,List.getElem?_eq_getElem (by omega)⟩
    have hxk2:R[((k:Nat):Int).toNat]? = some x:=hxk
    have hbk2:(tk.map P2)[((k:Nat):Int).toNat]? = some (P2 b):=by rw [Int.toNat_natCast,List.getElem?_map,hbk];rfl
    have hxb:=hx R (List.mem_of_getElem? hR) x (List.mem_of_getElem? hxk)
    have hel:P6 M row k = x:=Qd hR hxk
    cases b with
    | true =>
      rw [← Jz hbk]
      generalize hV:s + p * n9 (P6 M) m row (N2 tk) (M0 tk (k + 1)) = V at *
      generalize hQ:I7 (M0 tk (k + 1)) * p = Q at *
      repeat' ((first | (refine B4 (x:=x) hxk2 (by omega) ?_) | (refine I2 (x:=P2 true) hbk2 (by omega) ?_) |refine A6 ?_|refine S1 ?_|refine Z1 ?_|refine Z2 ?_|(refine And.intro ?_ ?_<;>intro h<;>try first|(exfalso;omega)|exact absurd rfl h)|refine Z3 ?_|refine Z4 ?_|intro el hel hbB|intro el hel|intro ex|refine Z5 ?_|(refine B2 ?_ ?_;exact ⟨by kernel_rfl,by decide⟩)|refine B0 ?_ ?_|exact A9|refine A8 ?_ ?_|exact A7|(refine A3 ?_ ?_ ?_;kernel_rfl;kernel_rfl)) <;> (try (conv=>whnf)))
      all_goals first
       | (exfalso;omega)
       | exact ⟨k + 1,by omega,by omega,B3 h0 rfl ⟨rfl,rfl,rfl,rfl,rfl,rfl,rfl,rfl,rfl,trivial⟩ ⟨congrArg (fun z=>E0.box (G0 z)) hV,rfl,⟨_,rfl⟩,rfl,congrArg (fun z=>E0.box (G0 z)) hQ,trivial⟩ rfl rfl rfl⟩
    | false =>
      obtain ⟨f1,f2⟩:=PS hbk
      have f3:=NQ hbk
      have f4:=Jy hbk
      have hopp:=R7 (I7 (M0 tk k) * p)
      have eQ:-(I7 (M0 tk k) * p) = I7 (M0 tk (k + 1)) * p:=by rw [f4,U4,Int.neg_mul]
      have hset:(tk.map P2).set k (P2 true) = (tk.set k true).map P2:=List.map_set.symm
      have hback:((tk.set k true).map P2).set k (P2 false) = tk.map P2:=by
       rw [← List.map_set,List.set_set]
       congr 1
       refine List.ext_getElem? fun j=>?_
       rw [List.getElem?_set]
       split
       ·rename_i e;subst e
        rw [if_pos (by omega),hbk]
       ·rfl
      have hV:s + p * n9 (P6 M) m row (N2 tk) (M0 tk (k + 1)) = s + p * n9 (P6 M) m row (N2 tk) (M0 tk k) + I7 (M0 tk k) * p * x * Aa (P6 M) m (row + 1) (N2 (tk.set k true)):=by
       rw [f4,n9,n9,B7,f1,hel,f3];grind
      by_cases hx0:x = 0
      ·rw [hx0,Int.mul_zero,Int.zero_mul,Int.add_zero] at hV
       rw [eQ] at hopp
       generalize hVV:s + p * n9 (P6 M) m row (N2 tk) (M0 tk k) = V at *
       generalize hQQ:I7 (M0 tk k) * p = Q at *
       subst hx0
       repeat' ((first | (refine B4 (x:=(0:Int)) hxk2 (by omega) ?_) | (refine I2 (x:=P2 false) hbk2 (by omega) ?_) | refine A4 hopp ?_ |refine A6 ?_|refine S1 ?_|refine Z1 ?_|refine Z2 ?_|(refine And.intro ?_ ?_<;>intro h<;>try first|(exfalso;omega)|exact absurd rfl h)|refine Z3 ?_|refine Z4 ?_|intro el hel hbB|intro el hel|intro ex|refine Z5 ?_|(refine B2 ?_ ?_;exact ⟨by kernel_rfl,by decide⟩)|refine B0 ?_ ?_|exact A9|refine A8 ?_ ?_|exact A7|(refine A3 ?_ ?_ ?_;kernel_rfl;kernel_rfl)) <;> (try (conv=>whnf)))
       all_goals first
        | (exfalso;omega)
        | exact ⟨k + 1,by omega,by omega,B3 h0 rfl ⟨rfl,rfl,rfl,rfl,rfl,rfl,rfl,rfl,rfl,trivial⟩ ⟨congrArg (fun z=>E0.box (G0 z)) hV,rfl,⟨_,rfl⟩,rfl,rfl,trivial⟩ rfl rfl rfl⟩
      ·have hW:=H8 x hxb.1 hxb.2
       have hT:=V2 (I7 (M0 tk k) * p) x
       have hI:=ih (row + 1) (tk.set k true) (s + p * n9 (P6 M) m row (N2 tk) (M0 tk k)) (I7 (M0 tk k) * p * x) (by omega) (by simp [htk]) (by rw [f3,List.length_eraseIdx_of_lt f2,hf];rfl)
       rw [← hV, ← hset] at hI
       rw [← hset] at hback
       rw [eQ] at hopp
       generalize hVV:s + p * n9 (P6 M) m row (N2 tk) (M0 tk k) = V at *
       generalize hQQ:I7 (M0 tk k) * p = Q at *
       have hbk3:((tk.map P2).set k (P2 true))[((((k:Nat):Int).toNat:Nat):Int).toNat]? = some (P2 true):=by
        rw [Int.toNat_natCast,Int.toNat_natCast,List.getElem?_set_self (by rw [List.length_map];omega)]
       have hrow1:(((row + 1:Nat):Int)) = row + 1:=by omega
       rw [hrow1] at hI
       clear ih hV f3 f1
       repeat' ((first | (refine B4 (x:=x) hxk2 (by omega) ?_) | (refine I2 (x:=P2 false) hbk2 (by omega) ?_) | (refine I2 (x:=P2 true) hbk3 (by omega) ?_) | refine A4 hopp ?_ | refine A4 hW ?_ | refine A4 hT ?_ | (refine ⟨Iq [0,1,2,3] [0,0,0,0] hI rfl rfl rfl rfl rfl rfl ⟨rfl,rfl,rfl,rfl,trivial⟩ rfl rfl rfl rfl rfl ?_⟩) | (refine Af (id:=9) ⟨[(0, .i row),(2, .iptr [C3 M]),(3, .ref 0 0),(4, .ref 1 0),(5, .ref 3 0),(7, .ref 4 0),(20,C2 R),(21, .i R.length),(8, .i k),(22, .i k)],5,[(0,some (.box (G0 (s + p * n9 (P6 M) m row (N2 tk) (M0 tk (k + 1)))))),(1,some (.box [.row 2 0 n])),(2,some (.row 4 1 0 ((tk.map P2).set k (P2 true)))),(3,some (FJ M)),(4,some (.box (G0 Q)))]⟩ ?_ ?_) |refine A6 ?_|refine S1 ?_|refine Z1 ?_|refine Z2 ?_|(refine And.intro ?_ ?_<;>intro h<;>try first|(exfalso;omega)|exact absurd rfl h)|refine Z3 ?_|refine Z4 ?_|intro el hel hbB|intro el hel|intro ex|refine Z5 ?_|(refine B2 ?_ ?_;exact ⟨by kernel_rfl,by decide⟩)|refine B0 ?_ ?_|exact A9|refine A8 ?_ ?_|exact A7|(refine A3 ?_ ?_ ?_;kernel_rfl;kernel_rfl)) <;> (try (conv=>whnf)))
       all_goals first
        | (exfalso;omega)
        | exact B3 h0 rfl ⟨rfl,rfl,rfl,rfl,rfl,rfl,rfl,rfl,rfl,rfl,trivial⟩ ⟨rfl,rfl,⟨_,rfl⟩,rfl,rfl,trivial⟩ rfl rfl rfl
        | exact ⟨k + 1,by omega,by omega,B3 h0 rfl ⟨rfl,rfl,rfl,rfl,rfl,rfl,rfl,rfl,rfl,trivial⟩ ⟨rfl,rfl,⟨_,congrArg (E0.row _ _ _) hback.symm⟩,rfl,rfl,trivial⟩ rfl rfl rfl⟩
   ·have hkk:k = n:=by omega
    subst hkk
    have hfin:s + p * n9 (P6 M) m row (N2 tk) (M0 tk k) = s + p * Aa (P6 M) (m + 1) row (N2 tk):=by
     have:M0 tk k = m + 1:=by rw [← htk,PR,hf]
     rw [this];rfl
    rw [hfin]
    generalize s + p * Aa (P6 M) (m + 1) row (N2 tk) = V at *
    generalize I7 (M0 tk k) * p = Q at *
    repeat' ((first|refine A6 ?_|refine S1 ?_|refine Z1 ?_|refine Z2 ?_|(refine And.intro ?_ ?_<;>intro h<;>try first|(exfalso;omega)|exact absurd rfl h)|refine Z3 ?_|refine Z4 ?_|intro el hel hbB|intro el hel|intro ex|refine Z5 ?_|(refine B2 ?_ ?_;exact ⟨by kernel_rfl,by decide⟩)|refine B0 ?_ ?_|exact A9|refine A8 ?_ ?_|exact A7|(refine A3 ?_ ?_ ?_;kernel_rfl;kernel_rfl)) <;> (try (conv=>whnf)))
    all_goals first
     | (exfalso;omega)
     | (delta G8;exact .inl ⟨[],[],rfl,trivial,rfl,rfl,B3 h0 rfl trivial ⟨rfl,rfl,⟨_,rfl⟩,rfl,trivial⟩ rfl rfl rfl,rfl⟩)
end Go.Proofs.YtbhegmcbpolemaaDoor
