/- The program's determinant: a closure that calls itself. -/
import Derived.Test.YtbhegmcbpolemaaDoorTJr5
set_option linter.unusedVariables false
set_option linter.unnecessarySimpa false
set_option linter.unusedSimpArgs false
namespace Go.Proofs.YtbhegmcbpolemaaDoor
open Go Go.Av
attribute [local irreducible] E4 B6 F1 E7 DQ F6 F9 St.le B5 D4
set_option maxRecDepth 100000
abbrev B8 (r:List Int):AV:=.sl 1 (r.map fun x=>[.i x])
abbrev B7 (M:List (List Int)):AV:=.sl 1 (M.map fun r=>[B8 r])
abbrev P5 (b:Bool):List AV:=[.b b]
def Eu (M:List (List Int)):D9:=.box [.fo 65 [.iptr [B7 M], .ref 0 0, .ref 1 0, .ref 3 0]]
instance:G3 Tryd.prog 95 false 1:=.of (by kernel_rfl) (by kernel_rfl)
def m4 (a:Nat → Nat → Int) (m row:Nat) (F:List Nat) (c:Nat):Int:=E8 c fun j=>S2 j * a row (F.getD j 0) * AE a m (row + 1) (F.eraseIdx j)
set_option maxHeartbeats 16000000 in
theorem Jn (M:List (List Int)) (n:Nat) (hM:M.length = n) (hr:∀ r ∈ M,r.length = n) (hn:n ≤ 1000) (hx:∀ r ∈ M,∀ x ∈ r, -9223372036854775808 ≤ x ∧ x ≤ 9223372036854775807) :
  ∀ (m row:Nat) (tk:List Bool) (s p:Int),row + m = n → tk.length = n → (N6 tk).length = m →
  D4 Tryd.prog 65 4 [(0,some (.box (D3 s))),(1,some (.box [.row 2 0 n])),(2,some (.row 4 1 0 (tk.map P5))),(3,some (Eu M))] [.i row,D6 p, .iptr [B7 M], .ref 0 0, .ref 1 0, .ref 3 0]
   4 [(0,some (.box (D3 (s + p * AE (L2 M) m row (N6 tk))))),(1,some (.box [.row 2 0 n])),(2,some (.row 4 1 0 (tk.map P5))),(3,some (Eu M))] (.tup []):=by
 intro m
 induction m with
 | zero =>
   intro row tk s p hrow htk hf
   have h1:=CC s p
   rw [AE,Int.mul_one]
   have hrn:row = n:=by omega
   subst hrn
   unfold Eu
   refine FX Tryd.func65 50 fun E h0=>?_
   repeat' ((first | refine A4 h1 ?_ |refine A5 ?_|refine S1 ?_|refine Z1 ?_|refine Z2 ?_|(refine And.intro ?_ ?_<;>intro h<;>try first|(exfalso;omega)|exact absurd rfl h)|refine Z3 ?_|refine Z4 ?_|intro el hel hbB|intro el hel|intro ex|refine Z5 ?_|(refine B0 ?_ ?_;exact ⟨by kernel_rfl,by decide⟩)|refine A9 ?_ ?_|exact A8|refine A7 ?_ ?_|exact A6|(refine A3 ?_ ?_ ?_;kernel_rfl;kernel_rfl)) <;> (try (conv=>whnf)))
   all_goals first
    | (exfalso;simp only [List.length_map] at *;omega)
    | (delta F9;exact .inl ⟨[],[],rfl,trivial,rfl,rfl,B4 h0 rfl trivial ⟨rfl,rfl,⟨_,rfl⟩,rfl,trivial⟩ rfl rfl rfl,rfl⟩)
 | succ m ih =>
   intro row tk s p hrow htk hf
   have hrl:row < M.length:=by omega
   obtain ⟨R,hR⟩:∃ R,M[row]? = some R:=⟨_,List.getElem?_eq_getElem hrl⟩
   have hRl:R.length = n:=hr R (List.mem_of_getElem? hR)
   have hR2:M[((row:Nat):Int).toNat]? = some R:=hR
   refine FX Tryd.func65 50 fun E h0=>?_
   repeat' ((first | (refine B3 (x:=R) hR2 (by omega) ?_) |refine A5 ?_|refine S1 ?_|refine Z1 ?_|refine Z2 ?_|(refine And.intro ?_ ?_<;>intro h<;>try first|(exfalso;omega)|exact absurd rfl h)|refine Z3 ?_|refine Z4 ?_|intro el hel hbB|intro el hel|intro ex|refine Z5 ?_|(refine B0 ?_ ?_;exact ⟨by kernel_rfl,by decide⟩)|refine A9 ?_ ?_|exact A8|refine A7 ?_ ?_|exact A6|(refine A3 ?_ ?_ ?_;kernel_rfl;kernel_rfl)) <;> (try (conv=>whnf)))
   all_goals first
    | (exfalso;simp only [List.length_map] at *;omega)
    | skip
   refine D7 (ι:=Nat) (fun k=>⟨[(0, .i row),(2, .iptr [B7 M]),(3, .ref 0 0),(4, .ref 1 0),(5, .ref 3 0),(7, .ref 4 0),(20,B8 R),(21, .i R.length),(22, .i k)],5,[(0,some (.box (D3 (s + p * m4 (L2 M) m row (N6 tk) (M6 tk k))))),(1,some (.box [.row 2 0 n])),(2,some (.row 4 1 0 (tk.map P5))),(3,some (Eu M)),(4,some (.box (D3 (S2 (M6 tk k) * p))))]⟩) (fun k=>k ≤ n) (fun k=>n - k) 0 (Nat.zero_le _)
    (B4 h0 rfl ⟨rfl,rfl,rfl,rfl,rfl,rfl,rfl,rfl,rfl,trivial⟩ ⟨congrArg (fun z=>D9.box (D3 z)) (by simp [m4,M6,E8]),rfl,⟨_,rfl⟩,rfl,congrArg (fun z=>D9.box (D3 z)) (by simp [M6,S2]),trivial⟩ rfl rfl rfl) (fun k hk=>?_)
   by_cases hkn:k < n
   ·obtain ⟨x,hxk⟩:∃ x,R[k]? = some x:=⟨_,List.getElem?_eq_getElem (by omega)⟩
    obtain ⟨b,hbk⟩:∃ b,tk[k]? = some b:=⟨_,List.getElem?_eq_getElem (by omega)⟩
    have hxk2:R[((k:Nat):Int).toNat]? = some x:=hxk
    have hbk2:(tk.map P5)[((k:Nat):Int).toNat]? = some (P5 b):=by rw [Int.toNat_natCast,List.getElem?_map,hbk];rfl
    have hxb:=hx R (List.mem_of_getElem? hR) x (List.mem_of_getElem? hxk)
    have hel:L2 M row k = x:=LA hR hxk
    cases b with
    | true =>
      rw [← Jj hbk]
      generalize hV:s + p * m4 (L2 M) m row (N6 tk) (M6 tk (k + 1)) = V at *
      generalize hQ:S2 (M6 tk (k + 1)) * p = Q at *
      repeat' ((first | (refine B3 (x:=x) hxk2 (by omega) ?_) | (refine H9 (x:=P5 true) hbk2 (by omega) ?_) |refine A5 ?_|refine S1 ?_|refine Z1 ?_|refine Z2 ?_|(refine And.intro ?_ ?_<;>intro h<;>try first|(exfalso;omega)|exact absurd rfl h)|refine Z3 ?_|refine Z4 ?_|intro el hel hbB|intro el hel|intro ex|refine Z5 ?_|(refine B0 ?_ ?_;exact ⟨by kernel_rfl,by decide⟩)|refine A9 ?_ ?_|exact A8|refine A7 ?_ ?_|exact A6|(refine A3 ?_ ?_ ?_;kernel_rfl;kernel_rfl)) <;> (try (conv=>whnf)))
      all_goals first
       | (exfalso;omega)
       | exact ⟨k + 1,by omega,by omega,B4 h0 rfl ⟨rfl,rfl,rfl,rfl,rfl,rfl,rfl,rfl,rfl,trivial⟩ ⟨congrArg (fun z=>D9.box (D3 z)) hV,rfl,⟨_,rfl⟩,rfl,congrArg (fun z=>D9.box (D3 z)) hQ,trivial⟩ rfl rfl rfl⟩
    | false =>
      obtain ⟨f1,f2⟩:=Ok hbk
      have f3:=Mq hbk
      have f4:=Ji hbk
      have hopp:=S3 (S2 (M6 tk k) * p)
      have eQ:-(S2 (M6 tk k) * p) = S2 (M6 tk (k + 1)) * p:=by rw [f4,Mj,Int.neg_mul]
      have hset:(tk.map P5).set k (P5 true) = (tk.set k true).map P5:=List.map_set.symm
      have hback:((tk.set k true).map P5).set k (P5 false) = tk.map P5:=by
       rw [← List.map_set,List.set_set]
       congr 1
       refine List.ext_getElem? fun j=>?_
       rw [List.getElem?_set]
       split
       ·rename_i e;subst e
        rw [if_pos (by omega),hbk]
       ·rfl
      have hV:s + p * m4 (L2 M) m row (N6 tk) (M6 tk (k + 1)) = s + p * m4 (L2 M) m row (N6 tk) (M6 tk k) + S2 (M6 tk k) * p * x * AE (L2 M) m (row + 1) (N6 (tk.set k true)):=by
       rw [f4,m4,m4,E8,f1,hel,f3];grind
      by_cases hx0:x = 0
      ·rw [hx0,Int.mul_zero,Int.zero_mul,Int.add_zero] at hV
       rw [eQ] at hopp
       generalize hVV:s + p * m4 (L2 M) m row (N6 tk) (M6 tk k) = V at *
       generalize hQQ:S2 (M6 tk k) * p = Q at *
       subst hx0
       repeat' ((first | (refine B3 (x:=(0:Int)) hxk2 (by omega) ?_) | (refine H9 (x:=P5 false) hbk2 (by omega) ?_) | refine A4 hopp ?_ |refine A5 ?_|refine S1 ?_|refine Z1 ?_|refine Z2 ?_|(refine And.intro ?_ ?_<;>intro h<;>try first|(exfalso;omega)|exact absurd rfl h)|refine Z3 ?_|refine Z4 ?_|intro el hel hbB|intro el hel|intro ex|refine Z5 ?_|(refine B0 ?_ ?_;exact ⟨by kernel_rfl,by decide⟩)|refine A9 ?_ ?_|exact A8|refine A7 ?_ ?_|exact A6|(refine A3 ?_ ?_ ?_;kernel_rfl;kernel_rfl)) <;> (try (conv=>whnf)))
       all_goals first
        | (exfalso;omega)
        | exact ⟨k + 1,by omega,by omega,B4 h0 rfl ⟨rfl,rfl,rfl,rfl,rfl,rfl,rfl,rfl,rfl,trivial⟩ ⟨congrArg (fun z=>D9.box (D3 z)) hV,rfl,⟨_,rfl⟩,rfl,rfl,trivial⟩ rfl rfl rfl⟩
      ·have hW:=Y5 x hxb.1 hxb.2
       have hT:=Jl (S2 (M6 tk k) * p) x
       have hI:=ih (row + 1) (tk.set k true) (s + p * m4 (L2 M) m row (N6 tk) (M6 tk k)) (S2 (M6 tk k) * p * x) (by omega) (by simp [htk]) (by rw [f3,List.length_eraseIdx_of_lt f2,hf];rfl)
       rw [← hV, ← hset] at hI
       rw [← hset] at hback
       rw [eQ] at hopp
       generalize hVV:s + p * m4 (L2 M) m row (N6 tk) (M6 tk k) = V at *
       generalize hQQ:S2 (M6 tk k) * p = Q at *
       have hbk3:((tk.map P5).set k (P5 true))[((((k:Nat):Int).toNat:Nat):Int).toNat]? = some (P5 true):=by
        rw [Int.toNat_natCast,Int.toNat_natCast,List.getElem?_set_self (by rw [List.length_map];omega)]
       have hrow1:(((row + 1:Nat):Int)) = row + 1:=by omega
       rw [hrow1] at hI
       clear ih hV f3 f1
       repeat' ((first | (refine B3 (x:=x) hxk2 (by omega) ?_) | (refine H9 (x:=P5 false) hbk2 (by omega) ?_) | (refine H9 (x:=P5 true) hbk3 (by omega) ?_) | refine A4 hopp ?_ | refine A4 hW ?_ | refine A4 hT ?_ | (refine ⟨IX [0,1,2,3] [0,0,0,0] hI rfl rfl rfl rfl rfl rfl ⟨rfl,rfl,rfl,rfl,trivial⟩ rfl rfl rfl rfl rfl ?_⟩) | (refine l6 (id:=9) ⟨[(0, .i row),(2, .iptr [B7 M]),(3, .ref 0 0),(4, .ref 1 0),(5, .ref 3 0),(7, .ref 4 0),(20,B8 R),(21, .i R.length),(8, .i k),(22, .i k)],5,[(0,some (.box (D3 (s + p * m4 (L2 M) m row (N6 tk) (M6 tk (k + 1)))))),(1,some (.box [.row 2 0 n])),(2,some (.row 4 1 0 ((tk.map P5).set k (P5 true)))),(3,some (Eu M)),(4,some (.box (D3 Q)))]⟩ ?_ ?_) |refine A5 ?_|refine S1 ?_|refine Z1 ?_|refine Z2 ?_|(refine And.intro ?_ ?_<;>intro h<;>try first|(exfalso;omega)|exact absurd rfl h)|refine Z3 ?_|refine Z4 ?_|intro el hel hbB|intro el hel|intro ex|refine Z5 ?_|(refine B0 ?_ ?_;exact ⟨by kernel_rfl,by decide⟩)|refine A9 ?_ ?_|exact A8|refine A7 ?_ ?_|exact A6|(refine A3 ?_ ?_ ?_;kernel_rfl;kernel_rfl)) <;> (try (conv=>whnf)))
       all_goals first
        | (exfalso;omega)
        | exact B4 h0 rfl ⟨rfl,rfl,rfl,rfl,rfl,rfl,rfl,rfl,rfl,rfl,trivial⟩ ⟨rfl,rfl,⟨_,rfl⟩,rfl,rfl,trivial⟩ rfl rfl rfl
        | exact ⟨k + 1,by omega,by omega,B4 h0 rfl ⟨rfl,rfl,rfl,rfl,rfl,rfl,rfl,rfl,rfl,trivial⟩ ⟨rfl,rfl,⟨_,congrArg (D9.row _ _ _) hback.symm⟩,rfl,rfl,trivial⟩ rfl rfl rfl⟩
   ·have hkk:k = n:=by omega
    subst hkk
    have hfin:s + p * m4 (L2 M) m row (N6 tk) (M6 tk k) = s + p * AE (L2 M) (m + 1) row (N6 tk):=by
     have:M6 tk k = m + 1:=by rw [← htk,Oj,hf]
     rw [this];rfl
    rw [hfin]
    generalize s + p * AE (L2 M) (m + 1) row (N6 tk) = V at *
    generalize S2 (M6 tk k) * p = Q at *
    repeat' ((first|refine A5 ?_|refine S1 ?_|refine Z1 ?_|refine Z2 ?_|(refine And.intro ?_ ?_<;>intro h<;>try first|(exfalso;omega)|exact absurd rfl h)|refine Z3 ?_|refine Z4 ?_|intro el hel hbB|intro el hel|intro ex|refine Z5 ?_|(refine B0 ?_ ?_;exact ⟨by kernel_rfl,by decide⟩)|refine A9 ?_ ?_|exact A8|refine A7 ?_ ?_|exact A6|(refine A3 ?_ ?_ ?_;kernel_rfl;kernel_rfl)) <;> (try (conv=>whnf)))
    all_goals first
     | (exfalso;omega)
     | (delta F9;exact .inl ⟨[],[],rfl,trivial,rfl,rfl,B4 h0 rfl trivial ⟨rfl,rfl,⟨_,rfl⟩,rfl,trivial⟩ rfl rfl rfl,rfl⟩)
end Go.Proofs.YtbhegmcbpolemaaDoor
