/- Chapter 16: the program's reader: an expression at the beginning of a text. -/
import Derived.Test.YtjmbhlgocikfiaaGreatDoorTPg4
import Derived.Test.YtjmbhlgocikfiaaGreatDoorTAvTy
import Derived.Test.YtjmbhlgocikfiaaGreatDoorTSh
import Derived.Lib.Join
import Derived.Lib.IndexMore
set_option linter.unusedVariables false
set_option linter.unnecessarySimpa false
set_option linter.unusedSimpArgs false
namespace Go.Proofs.YtjmbhlgocikfiaaGreatDoor
open Go Go.Av
attribute [local irreducible] AWp AOps AAny MAny DQ retQ retG St.le FCall GCall
set_option maxRecDepth 100000
set_option maxHeartbeats 16000000 in
theorem pexpr_call (s:Sch) (hr:schE s = 0):∀ (n:Nat) (t:List UInt8),t.length < n → t.length ≤ 1000000 → ∃ z:Xpr,GCall Tryz.prog 80 1 (rdP s t) [.ref 0 0] 1 (hpO s (exprO s n t)) (tupO xprA (xprA z) (exprO s n t)):=by
 intro n
 induction n with
 | zero=>intro t h;omega
 | succ n ih =>
  intro t hlt ht
  generalize hZ:exprO s (n + 1) t = Z
  have hZ:=hZ.symm
  rw [exprO] at hZ
  rcases hk:takO [40] t with _ | u
  case some =>
   rw [hk] at hZ;(try dsimp only at hZ)
   have l1:=takO_len hk
   have l2:([40]:List UInt8).length = 1:=rfl
   have r1:=ptake_yes (s:=s) hk (by omega) (by decide)
   obtain ⟨z,r2⟩:=ppair_call s n ih u (by omega) (by omega) Z hZ
   refine ⟨z,?_⟩
   rcases Z with _ | ⟨e,v⟩
   ·dsimp only [hpO,tupO] at r2
    clear hZ ih
    refine gci Tryz.func80 63 fun E h0=>?_
    repeat' ((first|refine aops_go ?_|refine S1 ?_|refine Z1 ?_|refine Z2 ?_|(refine And.intro ?_ ?_<;>intro h<;>try first|(exfalso;omega)|exact absurd rfl h)|refine Z3 ?_|refine Z4 ?_|intro el hel hbB|intro el hel|intro ex|refine Z5 ?_|(refine free_i ?_ ?_;exact ⟨by kernel_rfl,by decide⟩)|refine allI_c ?_ ?_|exact allI_n|refine allMP_c ?_ ?_|exact allMP_n|(refine many_step ?_ ?_ ?_;kernel_rfl;kernel_rfl) | refine nc [0] [0] r1 rfl rfl rfl ⟨rfl,trivial⟩ ?_ | refine nc [0] [0] r2 rfl rfl rfl ⟨rfl,trivial⟩ ?_) <;> (try (conv=>whnf)))
    all_goals first
     | exact retg_vs (rvs:=[.cell 2 xprT, .tmp 3]) (vs:=[_,_]) ⟨1,_,_,rfl,rfl,inferInstance,rfl,rfl,trivial⟩ rfl rfl (le_of h0 rfl ⟨rfl,rfl,trivial⟩ ⟨rfl,trivial⟩ rfl rfl rfl) rfl
   ·dsimp only [hpO,tupO] at r2
    clear hZ ih
    refine gci Tryz.func80 63 fun E h0=>?_
    repeat' ((first|refine aops_go ?_|refine S1 ?_|refine Z1 ?_|refine Z2 ?_|(refine And.intro ?_ ?_<;>intro h<;>try first|(exfalso;omega)|exact absurd rfl h)|refine Z3 ?_|refine Z4 ?_|intro el hel hbB|intro el hel|intro ex|refine Z5 ?_|(refine free_i ?_ ?_;exact ⟨by kernel_rfl,by decide⟩)|refine allI_c ?_ ?_|exact allI_n|refine allMP_c ?_ ?_|exact allMP_n|(refine many_step ?_ ?_ ?_;kernel_rfl;kernel_rfl) | refine nc [0] [0] r1 rfl rfl rfl ⟨rfl,trivial⟩ ?_ | refine nc [0] [0] r2 rfl rfl rfl ⟨rfl,trivial⟩ ?_) <;> (try (conv=>whnf)))
    all_goals first
     | exact retg_vs (rvs:=[.cell 2 xprT, .tmp 3]) (vs:=[_,_]) ⟨1,_,_,rfl,rfl,inferInstance,rfl,rfl,trivial⟩ rfl rfl (le_of h0 rfl ⟨rfl,rfl,trivial⟩ ⟨rfl,trivial⟩ rfl rfl rfl) rfl
  rw [hk] at hZ;(try dsimp only at hZ)
  have r1:=ptake_no (s:=s) hk (by omega) (by decide)
  clear ih hk
  unfold leafO at hZ
  rcases t with _ | ⟨b,r⟩
  ·rw [if_pos rfl] at hZ
   subst hZ
   refine ⟨.mk 0 0 [] 0 [] [] zX zX [],?_⟩
   refine gci Tryz.func80 63 fun E h0=>?_
   repeat' ((first|refine aops_go ?_|refine S1 ?_|refine Z1 ?_|refine Z2 ?_|(refine And.intro ?_ ?_<;>intro h<;>try first|(exfalso;omega)|exact absurd rfl h)|refine Z3 ?_|refine Z4 ?_|intro el hel hbB|intro el hel|intro ex|refine Z5 ?_|(refine free_i ?_ ?_;exact ⟨by kernel_rfl,by decide⟩)|refine allI_c ?_ ?_|exact allI_n|refine allMP_c ?_ ?_|exact allMP_n|(refine many_step ?_ ?_ ?_;kernel_rfl;kernel_rfl) | refine nc [0] [0] r1 rfl rfl rfl ⟨rfl,trivial⟩ ?_) <;> (try (conv=>whnf)))
   all_goals first
    | exact retg_vs (rvs:=[.cell 2 xprT, .tmp 3]) (vs:=[_,_]) ⟨1,_,_,rfl,rfl,inferInstance,rfl,rfl,trivial⟩ rfl rfl (le_trans (le_slot 2 (xprA (.mk 0 0 [] 0 [] [] zX zX [])) rfl (nl_xpr (.mk 0 0 [] 0 [] [] zX zX []) (.nil _) (.nil _) (.nil _) (.nil _) (.nil _))) (le_trans (le_rd 0 rfl) (le_of h0 rfl ⟨rfl,rfl,trivial⟩ ⟨rfl,trivial⟩ rfl rfl rfl))) rfl
    | (exfalso;omega)
    | (exfalso;simp_all;done)
  rw [if_neg (by simp)] at hZ
  have hb:(b :: r)[(0:Int).toNat]? = some b:=rfl
  have hne:b :: r ≠ []:=by simp
  by_cases hd:b.toNat = 45 ∨ 48 ≤ b.toNat ∧ b.toNat ≤ 57
  ·rw [if_pos (show digO (b :: r) = true from decide_eq_true hd)] at hZ
   generalize b :: r = t at *
   rcases hn:numO t with _ | ⟨v,u⟩
   ·rw [hn] at hZ;(try dsimp only at hZ);subst hZ
    obtain ⟨v,w,r2⟩:=pnum_no (s:=s) hn (by omega)
    refine ⟨.mk 1 v [] 0 [] [] zX zX [],?_⟩
    clear hn
    refine gci Tryz.func80 63 fun E h0=>?_
    repeat' ((first | (refine each_known (x:=b) hb (by omega) ?_) |refine aops_go ?_|refine S1 ?_|refine Z1 ?_|refine Z2 ?_|(refine And.intro ?_ ?_<;>intro h<;>try first|(exfalso;omega)|exact absurd rfl h)|refine Z3 ?_|refine Z4 ?_|intro el hel hbB|intro el hel|intro ex|refine Z5 ?_|(refine free_i ?_ ?_;exact ⟨by kernel_rfl,by decide⟩)|refine allI_c ?_ ?_|exact allI_n|refine allMP_c ?_ ?_|exact allMP_n|(refine many_step ?_ ?_ ?_;kernel_rfl;kernel_rfl) | refine nc [0] [0] r1 rfl rfl rfl ⟨rfl,trivial⟩ ?_ | refine nc [0] [0] r2 rfl rfl rfl ⟨rfl,trivial⟩ ?_) <;> (try (conv=>whnf)))
    all_goals first
     | exact retg_vs (rvs:=[.cell 2 xprT, .tmp 3]) (vs:=[_,_]) ⟨1,_,_,rfl,rfl,inferInstance,rfl,rfl,trivial⟩ rfl rfl (le_trans (le_slot 2 (xprA (.mk 1 v [] 0 [] [] zX zX [])) rfl (nl_xpr (.mk 1 v [] 0 [] [] zX zX []) (.nil _) (.nil _) (.nil _) (.nil _) (.nil _))) (le_trans (le_rd 0 rfl) (le_of h0 rfl ⟨rfl,rfl,trivial⟩ ⟨rfl,trivial⟩ rfl rfl rfl))) rfl
     | (exfalso;omega)
     | (exfalso;exact absurd (by assumption) hne)
   ·rw [hn] at hZ;(try dsimp only at hZ);subst hZ
    obtain ⟨r2,_⟩:=pnum_yes (s:=s) hn (by omega)
    refine ⟨.mk 1 v [] 0 [] [] zX zX [],?_⟩
    clear hn
    refine gci Tryz.func80 63 fun E h0=>?_
    repeat' ((first | (refine each_known (x:=b) hb (by omega) ?_) |refine aops_go ?_|refine S1 ?_|refine Z1 ?_|refine Z2 ?_|(refine And.intro ?_ ?_<;>intro h<;>try first|(exfalso;omega)|exact absurd rfl h)|refine Z3 ?_|refine Z4 ?_|intro el hel hbB|intro el hel|intro ex|refine Z5 ?_|(refine free_i ?_ ?_;exact ⟨by kernel_rfl,by decide⟩)|refine allI_c ?_ ?_|exact allI_n|refine allMP_c ?_ ?_|exact allMP_n|(refine many_step ?_ ?_ ?_;kernel_rfl;kernel_rfl) | refine nc [0] [0] r1 rfl rfl rfl ⟨rfl,trivial⟩ ?_ | refine nc [0] [0] r2 rfl rfl rfl ⟨rfl,trivial⟩ ?_) <;> (try (conv=>whnf)))
    all_goals first
     | exact retg_vs (rvs:=[.cell 2 xprT, .tmp 3]) (vs:=[_,_]) ⟨1,_,_,rfl,rfl,inferInstance,rfl,rfl,trivial⟩ rfl rfl (le_trans (le_slot 2 (xprA (.mk 1 v [] 0 [] [] zX zX [])) rfl (nl_xpr (.mk 1 v [] 0 [] [] zX zX []) (.nil _) (.nil _) (.nil _) (.nil _) (.nil _))) (le_of h0 rfl ⟨rfl,rfl,trivial⟩ ⟨rfl,trivial⟩ rfl rfl rfl)) rfl
     | (exfalso;omega)
     | (exfalso;exact absurd (by assumption) hne)
  rw [if_neg (show ¬ digO (b :: r) = true from fun h=>hd (of_decide_eq_true h))] at hZ
  have r2:=pword_call s (b :: r) (by omega)
  generalize b :: r = t at *
  have l1:=dropWhile_len isW t
  unfold wordO namO at hZ
  have hop:=ops16_call (t.takeWhile isW)
  have hoc:=opsX_cases (t.takeWhile isW)
  have hnil:t.takeWhile isW = [] → opsX (t.takeWhile isW) = 0:=fun h=>by rw [h];decide
  generalize t.takeWhile isW = w at *
  generalize t.dropWhile isW = u at *
  generalize opsX w = o at *
  by_cases ho:0 < o
  ·rw [if_pos ho] at hZ
   rcases hk:takO [40] u with _ | v
   ·rw [hk] at hZ;(try dsimp only at hZ)
    have r3:=ptake_no (s:=s) hk (by omega) (by decide)
    have hw:w ≠ []:=fun h=>by have:=hnil h;omega
    rw [if_neg hw] at hZ
    subst hZ
    clear hk hnil hoc
    refine ⟨.mk 2 0 w 0 [] [] zX zX [],?_⟩
    refine gci Tryz.func80 63 fun E h0=>?_
    repeat' ((first | (refine each_known (x:=b) hb (by omega) ?_) | refine call_i hop ?_ |refine aops_go ?_|refine S1 ?_|refine Z1 ?_|refine Z2 ?_|(refine And.intro ?_ ?_<;>intro h<;>try first|(exfalso;omega)|exact absurd rfl h)|refine Z3 ?_|refine Z4 ?_|intro el hel hbB|intro el hel|intro ex|refine Z5 ?_|(refine free_i ?_ ?_;exact ⟨by kernel_rfl,by decide⟩)|refine allI_c ?_ ?_|exact allI_n|refine allMP_c ?_ ?_|exact allMP_n|(refine many_step ?_ ?_ ?_;kernel_rfl;kernel_rfl) | refine nc [0] [0] r1 rfl rfl rfl ⟨rfl,trivial⟩ ?_ | refine nc [0] [0] r2 rfl rfl rfl ⟨rfl,trivial⟩ ?_ | refine nc [0] [0] r3 rfl rfl rfl ⟨rfl,trivial⟩ ?_) <;> (try (conv=>whnf)))
    all_goals first
     | exact retg_vs (rvs:=[.cell 2 xprT, .tmp 3]) (vs:=[_,_]) ⟨1,_,_,rfl,rfl,inferInstance,rfl,rfl,trivial⟩ rfl rfl (le_trans (le_slot 2 (xprA (.mk 2 0 w 0 [] [] zX zX [])) rfl (nl_xpr (.mk 2 0 w 0 [] [] zX zX []) (.nil _) (.nil _) (.nil _) (.nil _) (.nil _))) (le_of h0 rfl ⟨rfl,congrArg (fun z=>some (AV.b z)) (by simp [hw]),trivial⟩ ⟨rfl,trivial⟩ rfl rfl rfl)) rfl
     | (exfalso;omega)
     | (exfalso;exact absurd (by assumption) hne)
   ·rw [hk] at hZ;(try dsimp only at hZ)
    have r3:=ptake_yes (s:=s) hk (by omega) (by decide)
    have l2:=takO_len hk
    obtain ⟨z,r4⟩:=pparts_call s hr v (by omega) o (by omega)
    refine ⟨z,?_⟩
    rw [← hZ] at r4
    clear hk hnil
    rcases Z with _ | ⟨e,x⟩
    ·dsimp only [hpO,tupO] at r4
     clear hZ
     refine gci Tryz.func80 63 fun E h0=>?_
     repeat' ((first | (refine each_known (x:=b) hb (by omega) ?_) | refine call_i hop ?_ |refine aops_go ?_|refine S1 ?_|refine Z1 ?_|refine Z2 ?_|(refine And.intro ?_ ?_<;>intro h<;>try first|(exfalso;omega)|exact absurd rfl h)|refine Z3 ?_|refine Z4 ?_|intro el hel hbB|intro el hel|intro ex|refine Z5 ?_|(refine free_i ?_ ?_;exact ⟨by kernel_rfl,by decide⟩)|refine allI_c ?_ ?_|exact allI_n|refine allMP_c ?_ ?_|exact allMP_n|(refine many_step ?_ ?_ ?_;kernel_rfl;kernel_rfl) | refine nc [0] [0] r1 rfl rfl rfl ⟨rfl,trivial⟩ ?_ | refine nc [0] [0] r2 rfl rfl rfl ⟨rfl,trivial⟩ ?_ | refine nc [0] [0] r3 rfl rfl rfl ⟨rfl,trivial⟩ ?_ | refine nc [0] [0] r4 rfl rfl rfl ⟨rfl,trivial⟩ ?_) <;> (try (conv=>whnf)))
     all_goals first
      | exact retg_vs (rvs:=[.cell 2 xprT, .tmp 3]) (vs:=[_,_]) ⟨1,_,_,rfl,rfl,inferInstance,rfl,rfl,trivial⟩ rfl rfl (le_of h0 rfl ⟨rfl,rfl,trivial⟩ ⟨rfl,trivial⟩ rfl rfl rfl) rfl
      | (exfalso;omega)
      | (exfalso;exact absurd (by assumption) hne)
    ·dsimp only [hpO,tupO] at r4
     clear hZ
     refine gci Tryz.func80 63 fun E h0=>?_
     repeat' ((first | (refine each_known (x:=b) hb (by omega) ?_) | refine call_i hop ?_ |refine aops_go ?_|refine S1 ?_|refine Z1 ?_|refine Z2 ?_|(refine And.intro ?_ ?_<;>intro h<;>try first|(exfalso;omega)|exact absurd rfl h)|refine Z3 ?_|refine Z4 ?_|intro el hel hbB|intro el hel|intro ex|refine Z5 ?_|(refine free_i ?_ ?_;exact ⟨by kernel_rfl,by decide⟩)|refine allI_c ?_ ?_|exact allI_n|refine allMP_c ?_ ?_|exact allMP_n|(refine many_step ?_ ?_ ?_;kernel_rfl;kernel_rfl) | refine nc [0] [0] r1 rfl rfl rfl ⟨rfl,trivial⟩ ?_ | refine nc [0] [0] r2 rfl rfl rfl ⟨rfl,trivial⟩ ?_ | refine nc [0] [0] r3 rfl rfl rfl ⟨rfl,trivial⟩ ?_ | refine nc [0] [0] r4 rfl rfl rfl ⟨rfl,trivial⟩ ?_) <;> (try (conv=>whnf)))
     all_goals first
      | exact retg_vs (rvs:=[.cell 2 xprT, .tmp 3]) (vs:=[_,_]) ⟨1,_,_,rfl,rfl,inferInstance,rfl,rfl,trivial⟩ rfl rfl (le_of h0 rfl ⟨rfl,rfl,trivial⟩ ⟨rfl,trivial⟩ rfl rfl rfl) rfl
      | (exfalso;omega)
      | (exfalso;exact absurd (by assumption) hne)
  ·rw [if_neg ho] at hZ
   clear hnil
   by_cases hw:w = []
   ·rw [if_pos hw] at hZ
    subst hZ
    subst hw
    refine ⟨.mk 2 0 [] 0 [] [] zX zX [],?_⟩
    refine gci Tryz.func80 63 fun E h0=>?_
    repeat' ((first | (refine each_known (x:=b) hb (by omega) ?_) | refine call_i hop ?_ |refine aops_go ?_|refine S1 ?_|refine Z1 ?_|refine Z2 ?_|(refine And.intro ?_ ?_<;>intro h<;>try first|(exfalso;omega)|exact absurd rfl h)|refine Z3 ?_|refine Z4 ?_|intro el hel hbB|intro el hel|intro ex|refine Z5 ?_|(refine free_i ?_ ?_;exact ⟨by kernel_rfl,by decide⟩)|refine allI_c ?_ ?_|exact allI_n|refine allMP_c ?_ ?_|exact allMP_n|(refine many_step ?_ ?_ ?_;kernel_rfl;kernel_rfl) | refine nc [0] [0] r1 rfl rfl rfl ⟨rfl,trivial⟩ ?_ | refine nc [0] [0] r2 rfl rfl rfl ⟨rfl,trivial⟩ ?_) <;> (try (conv=>whnf)))
    all_goals first
     | exact retg_vs (rvs:=[.cell 2 xprT, .tmp 3]) (vs:=[_,_]) ⟨1,_,_,rfl,rfl,inferInstance,rfl,rfl,trivial⟩ rfl rfl (le_trans (le_slot 2 (xprA (.mk 2 0 [] 0 [] [] zX zX [])) rfl (nl_xpr (.mk 2 0 [] 0 [] [] zX zX []) (.nil _) (.nil _) (.nil _) (.nil _) (.nil _))) (le_trans (le_rd 0 rfl) (le_of h0 rfl ⟨rfl,rfl,trivial⟩ ⟨rfl,trivial⟩ rfl rfl rfl))) rfl
     | (exfalso;omega)
     | (exfalso;exact absurd (by assumption) hne)
   ·rw [if_neg hw] at hZ
    subst hZ
    refine ⟨.mk 2 0 w 0 [] [] zX zX [],?_⟩
    refine gci Tryz.func80 63 fun E h0=>?_
    repeat' ((first | (refine each_known (x:=b) hb (by omega) ?_) | refine call_i hop ?_ |refine aops_go ?_|refine S1 ?_|refine Z1 ?_|refine Z2 ?_|(refine And.intro ?_ ?_<;>intro h<;>try first|(exfalso;omega)|exact absurd rfl h)|refine Z3 ?_|refine Z4 ?_|intro el hel hbB|intro el hel|intro ex|refine Z5 ?_|(refine free_i ?_ ?_;exact ⟨by kernel_rfl,by decide⟩)|refine allI_c ?_ ?_|exact allI_n|refine allMP_c ?_ ?_|exact allMP_n|(refine many_step ?_ ?_ ?_;kernel_rfl;kernel_rfl) | refine nc [0] [0] r1 rfl rfl rfl ⟨rfl,trivial⟩ ?_ | refine nc [0] [0] r2 rfl rfl rfl ⟨rfl,trivial⟩ ?_) <;> (try (conv=>whnf)))
    all_goals first
     | exact retg_vs (rvs:=[.cell 2 xprT, .tmp 3]) (vs:=[_,_]) ⟨1,_,_,rfl,rfl,inferInstance,rfl,rfl,trivial⟩ rfl rfl (le_trans (le_slot 2 (xprA (.mk 2 0 w 0 [] [] zX zX [])) rfl (nl_xpr (.mk 2 0 w 0 [] [] zX zX []) (.nil _) (.nil _) (.nil _) (.nil _) (.nil _))) (le_of h0 rfl ⟨rfl,congrArg (fun z=>some (AV.b z)) (by simp [hw]),trivial⟩ ⟨rfl,trivial⟩ rfl rfl rfl)) rfl
     | (exfalso;omega)
     | (exfalso;exact absurd (by assumption) hne)
end Go.Proofs.YtjmbhlgocikfiaaGreatDoor
namespace Go.Proofs.YtjmbhlgocikfiaaGreatDoor
open Go Go.Av Go.RowKit Go.Lib
set_option maxRecDepth 100000
abbrev strJ (z:List UInt8):List AV:=[.str z]
theorem str_cells {U:Nat → Prop} {w:World} {l:List (List UInt8)} {y:Value} (h:Im U w (.sl 1 (l.map strJ)) y):(∃ a c,y = .slice a 0 c ∧ l = []) ∨ ∃ bk o c,y = .slice (some ⟨bk,o,none⟩) l.length c ∧ l.length ≤ c ∧ bk < w.heap.size ∧ ∀ (j:Nat) x,l[j]? = some x → w.cell? ⟨bk,o + j,none⟩ = some (.string ⟨x.toArray⟩):=by
 generalize hL:l.map strJ = L at h
 have hlen:L.length = l.length:=by rw [← hL,List.length_map]
 cases h with
 | slnil=>exact .inl ⟨none,0,rfl,List.map_eq_nil_iff.1 hL⟩
 | sl sz L a cap f hcap hm hu hsz hc h =>
  cases l with
  | nil=>exact .inl ⟨some a,cap,by rw [hlen];rfl,rfl⟩
  | cons x0 r =>
   have hcell:∀ (j:Nat) x,(x0 :: r)[j]? = some x → w.cell? (a.add j) = some (.string ⟨x.toArray⟩):=fun j x hx=>by
    have h1:j < L.length:=by rw [hlen];exact (List.getElem?_eq_some_iff.1 hx).1
    have h2:=hc j h1 0 Nat.one_pos
    have h3:=h j (strJ x) (by rw [← hL,List.getElem?_map,hx];rfl) 0 _ rfl
    rw [Nat.mul_one,Nat.add_zero] at h2
    rw [h2]
    generalize f j 0 = v at h3
    cases h3
    rfl
   have h0:=hcell 0 x0 rfl
   obtain ⟨bk,o,sp⟩:=a
   have hs:sp = none:=by
    cases sp with
    | none=>rfl
    | some q =>
     exfalso
     unfold World.cell? Addr.add at h0
     rw [if_pos rfl] at h0
     revert h0
     split
     ·intro h0;cases h0
     ·intro h0;cases h0
   subst hs
   have hlt:=block_lt h0
   rw [add_block] at hlt
   refine .inr ⟨bk,o,cap,by rw [hlen],by rw [← hlen];exact hcap,hlt,fun j x hx=>?_⟩
   have hj:=hcell j x hx
   have e:(⟨bk,o,none⟩:Addr).add j = ⟨bk,o + j,none⟩:=by unfold Addr.add;split <;> simp_all
   rwa [e] at hj
theorem join_call (l:List (List UInt8)) (sep:List UInt8) (hN:l.length ≤ 140737488355328) (hlen:(Lib.join l sep).length ≤ 140737488355328):FCall Tryz.prog 74 [.sl 1 (l.map strJ), .str sep] (.str (Lib.join l sep)):=by
 refine ⟨⟨Tryz.f74,Tryz.func74,by kernel_rfl,by kernel_rfl⟩,fun X w vs hX htb hl hv=>?_⟩
 match vs,hl with
 | [y,z],_ =>
  have hv0:=hv 0 _ y rfl rfl
  have hv1:=hv 1 _ z rfl rfl
  cases hv1
  rcases str_cells hv0 with ⟨a,c,rfl,rfl⟩ | ⟨bk,o,c,rfl,hc,hbk,hcell⟩
  ·refine Calls.mono (Tryz.strings_Join_none a c ⟨sep.toArray⟩ w) ?_
   rintro e w' ⟨rfl,rfl⟩
   exact ⟨_,rfl, .str [],Below.refl _ _⟩
  ·have e1:(l.map fun x=>ByteArray.mk x.toArray).map (·.data.toList) = l:=by
    rw [List.map_map]
    exact (List.map_congr_left (fun x _=>rfl)).trans (List.map_id l)
   have:=Tryz.strings_Join bk o c (l.map fun x=>ByteArray.mk x.toArray) ⟨sep.toArray⟩ w (fun j x hx=>by
    rw [List.getElem?_map,Option.map_eq_some_iff] at hx
    obtain ⟨x0,h1,rfl⟩:=hx
    exact hcell j x0 h1) hbk (by rw [List.length_map];exact hN) (by rw [List.length_map];exact hc) (by rw [e1];exact hlen)
   rw [e1,List.length_map] at this
   refine Calls.mono this ?_
   rintro e w' ⟨rfl,hb⟩
   exact ⟨_,rfl, .str _,hb⟩
theorem cut_call (t sep:List UInt8) (ht:t.length < 4294967281):FCall Tryz.prog 38 [.str t, .str sep] (.tup [.str (Lib.cut t sep).1, .str (Lib.cut t sep).2.1, .b (Lib.cut t sep).2.2]):=by
 refine ⟨⟨Tryz.f38,Tryz.func38,by kernel_rfl,by kernel_rfl⟩,fun X w vs hX htb hl hv=>?_⟩
 match vs,hl with
 | [y,z],_ =>
  have hv0:=hv 0 _ y rfl rfl
  have hv1:=hv 1 _ z rfl rfl
  cases hv0
  cases hv1
  obtain ⟨_,m,tt,fr,he⟩:=htb.num 0 (by decide)
  refine Calls.mono (Tryz.strings_Cut ⟨t.toArray⟩ ⟨sep.toArray⟩ m w ht (by unfold World.cell?;simp [he])) ?_
  rintro e w' ⟨rfl,n,rfl⟩
  refine ⟨_,rfl, .tup _ [.string _, .string _, .bool _] rfl fun j x c hx hc=>?_,⟨rfl,rfl,rfl,Nat.le_refl _,fun _ _=>rfl⟩⟩
  match j,hx,hc with
  | 0,hx,hc=>cases hx;cases hc;exact .str _
  | 1,hx,hc=>cases hx;cases hc;exact .str _
  | 2,hx,hc=>cases hx;cases hc;exact .v _
end Go.Proofs.YtjmbhlgocikfiaaGreatDoor
