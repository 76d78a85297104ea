/- The program's determinant: a closure that calls itself. -/
import Derived.Test.YtbhegmcbpolemaaDoorQJr5
set_option linter.unusedVariables false
set_option linter.unnecessarySimpa false
set_option linter.unusedSimpArgs false
namespace Go.Proofs.YtbhegmcbpolemaaDoor
open Go Go.Av
attribute [local irreducible] E2 B3 G0 F3 DQ H4 H7 St.le B7 E1
set_option maxRecDepth 100000
abbrev B9 (r:List Int):AV:=.sl 1 (r.map fun x=>[.i x])
abbrev D3 (M:List (List Int)):AV:=.sl 1 (M.map fun r=>[B9 r])
abbrev O8 (b:Bool):List AV:=[.b b]
def EU (M:List (List Int)):D9:=.box [.fo 65 [.iptr [D3 M], .ref 0 0, .ref 1 0, .ref 3 0]]
instance:G7 Tryd.prog 95 false 1:=.of (by kernel_rfl) (by kernel_rfl)
def l5 (a:Nat → Nat → Int) (m row:Nat) (F:List Nat) (c:Nat):Int:=B8 c fun j=>I6 j * a row (F.getD j 0) * AA a m (row + 1) (F.eraseIdx j)
set_option maxHeartbeats 16000000 in
theorem JY (M:List (List Int)) (n:Nat) (hM:M.length = n) (hr:∀ r ∈ M,r.length = n) (hn:n ≤ 1000) (hx:∀ r ∈ M,∀ x ∈ r, -9223372036854775808 ≤ x ∧ x ≤ 9223372036854775807) :
  ∀ (m row:Nat) (tk:List Bool) (s p:Int),row + m = n → tk.length = n → (M9 tk).length = m →
  E1 Tryd.prog 65 4 [(0,some (.box (G1 s))),(1,some (.box [.row 2 0 n])),(2,some (.row 4 1 0 (tk.map O8))),(3,some (EU M))] [.i row,I4 p, .iptr [D3 M], .ref 0 0, .ref 1 0, .ref 3 0]
   4 [(0,some (.box (G1 (s + p * AA (P3 M) m row (M9 tk))))),(1,some (.box [.row 2 0 n])),(2,some (.row 4 1 0 (tk.map O8))),(3,some (EU M))] (.tup []):=by
 intro m
 induction m with
 | zero =>
   intro row tk s p hrow htk hf
   have h1:=Bm s p
   rw [AA,Int.mul_one]
   have hrn:row = n:=by omega
   subst hrn
   unfold EU
   refine Ex Tryd.func65 50 fun E h0=>?_
   repeat' ((first | refine A8 h1 ?_ |refine A5 ?_|refine S1 ?_|refine Z1 ?_|refine Z2 ?_|(refine And.intro ?_ ?_<;>intro h<;>try first|(exfalso;omega)|exact absurd rfl h)|refine Z3 ?_|refine Z4 ?_|intro el hel hbB|intro el hel|intro ex|refine Z5 ?_|(refine B2 ?_ ?_;exact ⟨by kernel_rfl,by decide⟩)|refine B0 ?_ ?_|exact A9|refine A7 ?_ ?_|exact A6|(refine A3 ?_ ?_ ?_;kernel_rfl;kernel_rfl)) <;> (try (conv=>whnf)))
   all_goals first
    | (exfalso;simp only [List.length_map] at *;omega)
    | (delta H7;exact .inl ⟨[],[],rfl,trivial,rfl,rfl,B4 h0 rfl trivial ⟨rfl,rfl,⟨_,rfl⟩,rfl,trivial⟩ rfl rfl rfl,rfl⟩)
 | succ m ih =>
   intro row tk s p hrow htk hf
   have hrl:row < M.length:=by omega
   obtain ⟨R,hR⟩:∃ R,M[row]? = some R:=⟨_,List.getElem?_eq_getElem hrl⟩
   have hRl:R.length = n:=hr R (List.mem_of_getElem? hR)
   have hR2:M[((row:Nat):Int).toNat]? = some R:=hR
   refine Ex Tryd.func65 50 fun E h0=>?_
   repeat' ((first | (refine B5 (x:=R) hR2 (by omega) ?_) |refine A5 ?_|refine S1 ?_|refine Z1 ?_|refine Z2 ?_|(refine And.intro ?_ ?_<;>intro h<;>try first|(exfalso;omega)|exact absurd rfl h)|refine Z3 ?_|refine Z4 ?_|intro el hel hbB|intro el hel|intro ex|refine Z5 ?_|(refine B2 ?_ ?_;exact ⟨by kernel_rfl,by decide⟩)|refine B0 ?_ ?_|exact A9|refine A7 ?_ ?_|exact A6|(refine A3 ?_ ?_ ?_;kernel_rfl;kernel_rfl)) <;> (try (conv=>whnf)))
   all_goals first
    | (exfalso;simp only [List.length_map] at *;omega)
    | skip
   refine F4 (ι:=Nat) (fun k=>⟨[(0, .i row),(2, .iptr [D3 M]),(3, .ref 0 0),(4, .ref 1 0),(5, .ref 3 0),(7, .ref 4 0),(20,B9 R),(21, .i R.length),(22, .i k)],5,[(0,some (.box (G1 (s + p * l5 (P3 M) m row (M9 tk) (L6 tk k))))),(1,some (.box [.row 2 0 n])),(2,some (.row 4 1 0 (tk.map O8))),(3,some (EU M)),(4,some (.box (G1 (I6 (L6 tk k) * p))))]⟩) (fun k=>k ≤ n) (fun k=>n - k) 0 (Nat.zero_le _)
    (B4 h0 rfl ⟨rfl,rfl,rfl,rfl,rfl,rfl,rfl,rfl,rfl,trivial⟩ ⟨congrArg (fun z=>D9.box (G1 z)) (by simp [l5,L6,B8]),rfl,⟨_,rfl⟩,rfl,congrArg (fun z=>D9.box (G1 z)) (by simp [L6,I6]),trivial⟩ rfl rfl rfl) (fun k hk=>?_)
   by_cases hkn:k < n
   ·obtain ⟨x,hxk⟩:∃ x,R[k]? = some x:=⟨_,List.getElem?_eq_getElem (by omega)⟩
    obtain ⟨b,hbk⟩:∃ b,tk[k]? = some b:=⟨_,List.getElem?_eq_getElem (by omega)⟩
    have hxk2:R[((k:Nat):Int).toNat]? = some x:=hxk
    have hbk2:(tk.map O8)[((k:Nat):Int).toNat]? = some (O8 b):=by rw [Int.toNat_natCast,List.getElem?_map,hbk];rfl
    have hxb:=hx R (List.mem_of_getElem? hR) x (List.mem_of_getElem? hxk)
    have hel:P3 M row k = x:=Pk hR hxk
    cases b with
    | true =>
      rw [← JV hbk]
      generalize hV:s + p * l5 (P3 M) m row (M9 tk) (L6 tk (k + 1)) = V at *
      generalize hQ:I6 (L6 tk (k + 1)) * p = Q at *
      repeat' ((first | (refine B5 (x:=x) hxk2 (by omega) ?_) | (refine G9 (x:=O8 true) hbk2 (by omega) ?_) |refine A5 ?_|refine S1 ?_|refine Z1 ?_|refine Z2 ?_|(refine And.intro ?_ ?_<;>intro h<;>try first|(exfalso;omega)|exact absurd rfl h)|refine Z3 ?_|refine Z4 ?_|intro el hel hbB|intro el hel|intro ex|refine Z5 ?_|(refine B2 ?_ ?_;exact ⟨by kernel_rfl,by decide⟩)|refine B0 ?_ ?_|exact A9|refine A7 ?_ ?_|exact A6|(refine A3 ?_ ?_ ?_;kernel_rfl;kernel_rfl)) <;> (try (conv=>whnf)))
      all_goals first
       | (exfalso;omega)
       | exact ⟨k + 1,by omega,by omega,B4 h0 rfl ⟨rfl,rfl,rfl,rfl,rfl,rfl,rfl,rfl,rfl,trivial⟩ ⟨congrArg (fun z=>D9.box (G1 z)) hV,rfl,⟨_,rfl⟩,rfl,congrArg (fun z=>D9.box (G1 z)) hQ,trivial⟩ rfl rfl rfl⟩
    | false =>
      obtain ⟨f1,f2⟩:=OW hbk
      have f3:=Mi hbk
      have f4:=JU hbk
      have hopp:=R1 (I6 (L6 tk k) * p)
      have eQ:-(I6 (L6 tk k) * p) = I6 (L6 tk (k + 1)) * p:=by rw [f4,T1,Int.neg_mul]
      have hset:(tk.map O8).set k (O8 true) = (tk.set k true).map O8:=List.map_set.symm
      have hback:((tk.set k true).map O8).set k (O8 false) = tk.map O8:=by
       rw [← List.map_set,List.set_set]
       congr 1
       refine List.ext_getElem? fun j=>?_
       rw [List.getElem?_set]
       split
       ·rename_i e;subst e
        rw [if_pos (by omega),hbk]
       ·rfl
      have hV:s + p * l5 (P3 M) m row (M9 tk) (L6 tk (k + 1)) = s + p * l5 (P3 M) m row (M9 tk) (L6 tk k) + I6 (L6 tk k) * p * x * AA (P3 M) m (row + 1) (M9 (tk.set k true)):=by
       rw [f4,l5,l5,B8,f1,hel,f3];grind
      by_cases hx0:x = 0
      ·rw [hx0,Int.mul_zero,Int.zero_mul,Int.add_zero] at hV
       rw [eQ] at hopp
       generalize hVV:s + p * l5 (P3 M) m row (M9 tk) (L6 tk k) = V at *
       generalize hQQ:I6 (L6 tk k) * p = Q at *
       subst hx0
       repeat' ((first | (refine B5 (x:=(0:Int)) hxk2 (by omega) ?_) | (refine G9 (x:=O8 false) hbk2 (by omega) ?_) | refine A8 hopp ?_ |refine A5 ?_|refine S1 ?_|refine Z1 ?_|refine Z2 ?_|(refine And.intro ?_ ?_<;>intro h<;>try first|(exfalso;omega)|exact absurd rfl h)|refine Z3 ?_|refine Z4 ?_|intro el hel hbB|intro el hel|intro ex|refine Z5 ?_|(refine B2 ?_ ?_;exact ⟨by kernel_rfl,by decide⟩)|refine B0 ?_ ?_|exact A9|refine A7 ?_ ?_|exact A6|(refine A3 ?_ ?_ ?_;kernel_rfl;kernel_rfl)) <;> (try (conv=>whnf)))
       all_goals first
        | (exfalso;omega)
        | exact ⟨k + 1,by omega,by omega,B4 h0 rfl ⟨rfl,rfl,rfl,rfl,rfl,rfl,rfl,rfl,rfl,trivial⟩ ⟨congrArg (fun z=>D9.box (G1 z)) hV,rfl,⟨_,rfl⟩,rfl,rfl,trivial⟩ rfl rfl rfl⟩
      ·have hW:=Y2 x hxb.1 hxb.2
       have hT:=JX (I6 (L6 tk k) * p) x
       have hI:=ih (row + 1) (tk.set k true) (s + p * l5 (P3 M) m row (M9 tk) (L6 tk k)) (I6 (L6 tk k) * p * x) (by omega) (by simp [htk]) (by rw [f3,List.length_eraseIdx_of_lt f2,hf];rfl)
       rw [← hV, ← hset] at hI
       rw [← hset] at hback
       rw [eQ] at hopp
       generalize hVV:s + p * l5 (P3 M) m row (M9 tk) (L6 tk k) = V at *
       generalize hQQ:I6 (L6 tk k) * p = Q at *
       have hbk3:((tk.map O8).set k (O8 true))[((((k:Nat):Int).toNat:Nat):Int).toNat]? = some (O8 true):=by
        rw [Int.toNat_natCast,Int.toNat_natCast,List.getElem?_set_self (by rw [List.length_map];omega)]
       have hrow1:(((row + 1:Nat):Int)) = row + 1:=by omega
       rw [hrow1] at hI
       clear ih hV f3 f1
       repeat' ((first | (refine B5 (x:=x) hxk2 (by omega) ?_) | (refine G9 (x:=O8 false) hbk2 (by omega) ?_) | (refine G9 (x:=O8 true) hbk3 (by omega) ?_) | refine A8 hopp ?_ | refine A8 hW ?_ | refine A8 hT ?_ | (refine ⟨Hw [0,1,2,3] [0,0,0,0] hI rfl rfl rfl rfl rfl rfl ⟨rfl,rfl,rfl,rfl,trivial⟩ rfl rfl rfl rfl rfl ?_⟩) | (refine p9 (id:=9) ⟨[(0, .i row),(2, .iptr [D3 M]),(3, .ref 0 0),(4, .ref 1 0),(5, .ref 3 0),(7, .ref 4 0),(20,B9 R),(21, .i R.length),(8, .i k),(22, .i k)],5,[(0,some (.box (G1 (s + p * l5 (P3 M) m row (M9 tk) (L6 tk (k + 1)))))),(1,some (.box [.row 2 0 n])),(2,some (.row 4 1 0 ((tk.map O8).set k (O8 true)))),(3,some (EU M)),(4,some (.box (G1 Q)))]⟩ ?_ ?_) |refine A5 ?_|refine S1 ?_|refine Z1 ?_|refine Z2 ?_|(refine And.intro ?_ ?_<;>intro h<;>try first|(exfalso;omega)|exact absurd rfl h)|refine Z3 ?_|refine Z4 ?_|intro el hel hbB|intro el hel|intro ex|refine Z5 ?_|(refine B2 ?_ ?_;exact ⟨by kernel_rfl,by decide⟩)|refine B0 ?_ ?_|exact A9|refine A7 ?_ ?_|exact A6|(refine A3 ?_ ?_ ?_;kernel_rfl;kernel_rfl)) <;> (try (conv=>whnf)))
       all_goals first
        | (exfalso;omega)
        | exact B4 h0 rfl ⟨rfl,rfl,rfl,rfl,rfl,rfl,rfl,rfl,rfl,rfl,trivial⟩ ⟨rfl,rfl,⟨_,rfl⟩,rfl,rfl,trivial⟩ rfl rfl rfl
        | exact ⟨k + 1,by omega,by omega,B4 h0 rfl ⟨rfl,rfl,rfl,rfl,rfl,rfl,rfl,rfl,rfl,trivial⟩ ⟨rfl,rfl,⟨_,congrArg (D9.row _ _ _) hback.symm⟩,rfl,rfl,trivial⟩ rfl rfl rfl⟩
   ·have hkk:k = n:=by omega
    subst hkk
    have hfin:s + p * l5 (P3 M) m row (M9 tk) (L6 tk k) = s + p * AA (P3 M) (m + 1) row (M9 tk):=by
     have:L6 tk k = m + 1:=by rw [← htk,OV,hf]
     rw [this];rfl
    rw [hfin]
    generalize s + p * AA (P3 M) (m + 1) row (M9 tk) = V at *
    generalize I6 (L6 tk k) * p = Q at *
    repeat' ((first|refine A5 ?_|refine S1 ?_|refine Z1 ?_|refine Z2 ?_|(refine And.intro ?_ ?_<;>intro h<;>try first|(exfalso;omega)|exact absurd rfl h)|refine Z3 ?_|refine Z4 ?_|intro el hel hbB|intro el hel|intro ex|refine Z5 ?_|(refine B2 ?_ ?_;exact ⟨by kernel_rfl,by decide⟩)|refine B0 ?_ ?_|exact A9|refine A7 ?_ ?_|exact A6|(refine A3 ?_ ?_ ?_;kernel_rfl;kernel_rfl)) <;> (try (conv=>whnf)))
    all_goals first
     | (exfalso;omega)
     | (delta H7;exact .inl ⟨[],[],rfl,trivial,rfl,rfl,B4 h0 rfl trivial ⟨rfl,rfl,⟨_,rfl⟩,rfl,trivial⟩ rfl rfl rfl,rfl⟩)
end Go.Proofs.YtbhegmcbpolemaaDoor
