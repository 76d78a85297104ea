/- Chapter 16: the program's reader: lines. -/
import Derived.Test.YtjmbhlgocikfiaaGreatDoorTSj
import Derived.Test.YtjmbhlgocikfiaaGreatDoorTF1
set_option linter.unusedVariables false
set_option linter.unnecessarySimpa false
set_option linter.unusedSimpArgs false
namespace Go.Proofs.YtjmbhlgocikfiaaGreatDoor
open Go Go.Av
attribute [local irreducible] AWp AOps AAny MAny DQ retQ retG St.le FCall GCall
set_option maxRecDepth 100000
abbrev stm6T:Nat:=55
abbrev zerS:List AV:=.str [] :: .b false :: zerX
abbrev zerT:Stm:=⟨[],false, .mk 0 0 [] 0 [] [] zX zX []⟩
theorem nl_zerT:NL (.agg zerS) (stmA zerT):=nl_agg ⟨.refl _, .refl _, .refl _, .refl _, .refl _, .refl _, .nil _, .nil _, .refl _, .refl _, .refl _, .refl _, .refl _, .nil _, .refl _, .refl _, .refl _, .refl _, .refl _, .nil _, .nil _,trivial⟩
def stmZ (z:Stm):Option Stm → AV
 | none=>.tup [stmA z, .b false]
 | some x=>.tup [stmA x, .b true]
theorem cutb_call (t:List UInt8) (c:UInt8) (ht:t.length ≤ 1000000):FCall Tryz.prog 38 [.str t, .str [c]] (.tup [.str (t.takeWhile (notB c)), .str ((t.dropWhile (notB c)).drop 1), .b (decide (t.dropWhile (notB c) ≠ []))]):=by
 have:=cut_call t [c] (by omega)
 rw [cut_one] at this
 exact this
theorem cpre_yes {w t u:List UInt8} (h:takO w t = some u) (ht:t.length ≤ 1000000) (hw:w.length ≤ 9223372036854775807):FCall Tryz.prog 78 [.str t, .str w] (.tup [.str u, .b true]):=by
 have:=cutPrefix_call t w (by omega) hw
 rw [(takC_yes h).1] at this
 exact this
theorem cpre_no {w t:List UInt8} (h:takO w t = none) (ht:t.length ≤ 1000000) (hw:w.length ≤ 9223372036854775807):FCall Tryz.prog 78 [.str t, .str w] (.tup [.str t, .b false]):=by
 have:=cutPrefix_call t w (by omega) hw
 rw [takC_no h] at this
 exact this
set_option maxHeartbeats 8000000 in
theorem stm_no (s:Sch) (t:List UInt8) (ht:t.length ≤ 1000000) (h1:takO bOut t = none) (h2:takO bLet t = none):FCall Tryz.prog 39 [sA s, .str t] (.tup [stmA zerT, .b false]):=by
 have c1:=cpre_no h1 ht (by decide)
 have c2:=cpre_no h2 ht (by decide)
 refine fci Tryz.func39 69 fun hrd E h0=>?_
 clear hrd
 repeat' ((first | refine call_i c1 ?_ | refine call_i c2 ?_ |refine aops_go ?_|refine S1 ?_|refine Z1 ?_|refine Z2 ?_|(refine And.intro ?_ ?_<;>intro h<;>try first|(exfalso;omega)|exact absurd rfl h)|refine Z3 ?_|refine Z4 ?_|intro el hel hbB|intro el hel|intro ex|refine Z5 ?_|(refine free_i ?_ ?_;exact ⟨by kernel_rfl,by decide⟩)|refine allI_c ?_ ?_|exact allI_n|refine allMP_c ?_ ?_|exact allMP_n|(refine many_step ?_ ?_ ?_;kernel_rfl;kernel_rfl)) <;> (try (conv=>whnf)))
 all_goals first
  | exact ret_ct rfl rfl rfl nl_zerT rfl (.refl _) rfl
set_option maxHeartbeats 16000000 in
theorem stm_out (s:Sch) (hr:schE s = 0) (t u:List UInt8) (ht:t.length ≤ 1000000) (h1:takO bOut t = some u) (Z:Option Stm) (hZ:Z = stm2O s true u):∃ z:Stm,FCall Tryz.prog 39 [sA s, .str t] (stmZ z Z):=by
 unfold stm2O at hZ
 have c1:=cpre_yes h1 ht (by decide)
 have l1:=takO_len h1
 have c3:=cutb_call u 32 (by omega)
 have l2:=dropWhile_len (notB 32) u
 have l3:((u.dropWhile (notB 32)).drop 1).length ≤ u.length:=by rw [List.length_drop];omega
 generalize decide (u.dropWhile (notB 32) ≠ []) = bx at *
 generalize u.takeWhile (notB 32) = nm at *
 generalize (u.dropWhile (notB 32)).drop 1 = v at *
 by_cases hn:nm = []
 ·rw [if_pos hn] at hZ;subst hZ;subst hn
  refine ⟨zerT,?_⟩
  refine fci Tryz.func39 69 fun hrd E h0=>?_
  clear hrd
  repeat' ((first | refine call_i c1 ?_ | refine call_i c3 ?_ |refine aops_go ?_|refine S1 ?_|refine Z1 ?_|refine Z2 ?_|(refine And.intro ?_ ?_<;>intro h<;>try first|(exfalso;omega)|exact absurd rfl h)|refine Z3 ?_|refine Z4 ?_|intro el hel hbB|intro el hel|intro ex|refine Z5 ?_|(refine free_i ?_ ?_;exact ⟨by kernel_rfl,by decide⟩)|refine allI_c ?_ ?_|exact allI_n|refine allMP_c ?_ ?_|exact allMP_n|(refine many_step ?_ ?_ ?_;kernel_rfl;kernel_rfl) ) <;> (try (conv=>whnf)))
  all_goals first
   | exact le_of h0 rfl ⟨rfl,rfl,trivial⟩ ⟨rfl,trivial⟩ rfl rfl rfl
   | exact ret_ct rfl rfl rfl nl_zerT rfl (.refl _) rfl
   | (exfalso;omega)
   | (exfalso;exact absurd (by assumption) (by assumption))
 rw [if_neg hn] at hZ
 rcases hk:takO [61,32] v with _ | x
 ·rw [hk] at hZ;(try dsimp only at hZ);subst hZ
  have r1:=ptake_no (s:=s) hk (by omega) (by decide)
  refine ⟨zerT,?_⟩
  refine fci Tryz.func39 69 fun hrd E h0=>?_
  clear hrd
  repeat' ((first | refine call_i c1 ?_ | refine call_i c3 ?_ |refine aops_go ?_|refine S1 ?_|refine Z1 ?_|refine Z2 ?_|(refine And.intro ?_ ?_<;>intro h<;>try first|(exfalso;omega)|exact absurd rfl h)|refine Z3 ?_|refine Z4 ?_|intro el hel hbB|intro el hel|intro ex|refine Z5 ?_|(refine free_i ?_ ?_;exact ⟨by kernel_rfl,by decide⟩)|refine allI_c ?_ ?_|exact allI_n|refine allMP_c ?_ ?_|exact allMP_n|(refine many_step ?_ ?_ ?_;kernel_rfl;kernel_rfl) | refine nc [2] [0] r1 rfl rfl rfl ⟨rfl,trivial⟩ ?_) <;> (try (conv=>whnf)))
  all_goals first
   | exact le_of h0 rfl ⟨rfl,rfl,trivial⟩ ⟨rfl,trivial⟩ rfl rfl rfl
   | exact ret_ct rfl rfl rfl nl_zerT rfl (.refl _) rfl
   | (exfalso;omega)
   | (exfalso;exact absurd (by assumption) (by assumption))
 rw [hk] at hZ;(try dsimp only at hZ)
 have r1:=ptake_yes (s:=s) hk (by omega) (by decide)
 have l4:=takO_len hk
 obtain ⟨z,r2⟩:=pexpr_call s hr (x.length + 1) x (by omega) (by omega)
 rcases hx:exprO s (x.length + 1) x with _ | ⟨e,y⟩
 ·rw [hx] at hZ r2;(try dsimp only at hZ);subst hZ
  dsimp only [hpO,tupO] at r2
  refine ⟨⟨nm,true,z⟩,?_⟩
  refine fci Tryz.func39 69 fun hrd E h0=>?_
  clear hrd
  repeat' ((first | (refine draw_id 12 ?_;refine draw_le (id:=12) (σ':=⟨[(2, .iptr (sL s)),(4, .ref 1 0),(7, .b true),(9, .str nm),(11, .iptr [.sl 2 (s.lists.map clL), .sl 7 (s.cols.map colL), .any]),(12, .iptr (xprX z)),(13, .b false)],2,[(1,some (.box zerS))]⟩) (le_of h0 rfl ⟨rfl,rfl,rfl,rfl,rfl,rfl,rfl,trivial⟩ ⟨rfl,trivial⟩ rfl rfl rfl) ?_;refine draw_m (id:=12) ⟨[(4, .ref 1 0),(5, .b false)],2,[(1,some (.box (.str nm :: .b true :: (xprX z))))]⟩ ?_ ?_) | refine call_i c1 ?_ | refine call_i c3 ?_ |refine aops_go ?_|refine S1 ?_|refine Z1 ?_|refine Z2 ?_|(refine And.intro ?_ ?_<;>intro h<;>try first|(exfalso;omega)|exact absurd rfl h)|refine Z3 ?_|refine Z4 ?_|intro el hel hbB|intro el hel|intro ex|refine Z5 ?_|(refine free_i ?_ ?_;exact ⟨by kernel_rfl,by decide⟩)|refine allI_c ?_ ?_|exact allI_n|refine allMP_c ?_ ?_|exact allMP_n|(refine many_step ?_ ?_ ?_;kernel_rfl;kernel_rfl) | refine nc [2] [0] r1 rfl rfl rfl ⟨rfl,trivial⟩ ?_ | refine nc [2] [0] r2 rfl rfl rfl ⟨rfl,trivial⟩ ?_) <;> (try (conv=>whnf)))
  all_goals first
   | exact le_of h0 rfl ⟨rfl,rfl,trivial⟩ ⟨rfl,trivial⟩ rfl rfl rfl
   | exact ret_ct rfl rfl rfl (.refl _) rfl (.refl _) rfl
   | (exfalso;omega)
   | (exfalso;exact absurd (by assumption) (by assumption))
 rw [hx] at hZ r2;(try dsimp only at hZ)
 dsimp only [hpO,tupO] at r2
 clear hx hk
 have c4:=rightX_call s e
 by_cases hy:y = []
 ·subst hy
  cases hg:rigX s e
  ·rw [hg] at c4 hZ;rw [if_neg (by simp)] at hZ;subst hZ
   refine ⟨⟨nm,true,e⟩,?_⟩
   refine fci Tryz.func39 69 fun hrd E h0=>?_
   clear hrd
   repeat' ((first | (refine draw_id 12 ?_;refine draw_le (id:=12) (σ':=⟨[(2, .iptr (sL s)),(4, .ref 1 0),(7, .b true),(9, .str nm),(11, .iptr [.sl 2 (s.lists.map clL), .sl 7 (s.cols.map colL), .str []]),(12, .iptr (xprX e)),(13, .b true)],2,[(1,some (.box zerS))]⟩) (le_of h0 rfl ⟨rfl,rfl,rfl,rfl,rfl,rfl,rfl,trivial⟩ ⟨rfl,trivial⟩ rfl rfl rfl) ?_;refine draw_m (id:=12) ⟨[(4, .ref 1 0),(5, .b false)],2,[(1,some (.box (.str nm :: .b true :: (xprX e))))]⟩ ?_ ?_) | refine call_i c1 ?_ | refine call_i c3 ?_ | refine call_i c4 ?_ |refine aops_go ?_|refine S1 ?_|refine Z1 ?_|refine Z2 ?_|(refine And.intro ?_ ?_<;>intro h<;>try first|(exfalso;omega)|exact absurd rfl h)|refine Z3 ?_|refine Z4 ?_|intro el hel hbB|intro el hel|intro ex|refine Z5 ?_|(refine free_i ?_ ?_;exact ⟨by kernel_rfl,by decide⟩)|refine allI_c ?_ ?_|exact allI_n|refine allMP_c ?_ ?_|exact allMP_n|(refine many_step ?_ ?_ ?_;kernel_rfl;kernel_rfl) | refine nc [2] [0] r1 rfl rfl rfl ⟨rfl,trivial⟩ ?_ | refine nc [2] [0] r2 rfl rfl rfl ⟨rfl,trivial⟩ ?_) <;> (try (conv=>whnf)))
   all_goals first
    | exact le_of h0 rfl ⟨rfl,rfl,trivial⟩ ⟨rfl,trivial⟩ rfl rfl rfl
    | exact ret_ct rfl rfl rfl (.refl _) rfl (.refl _) rfl
    | (exfalso;omega)
    | (exfalso;exact absurd (by assumption) (by assumption))
  ·rw [hg] at c4 hZ;rw [if_pos ⟨rfl,rfl⟩] at hZ;subst hZ
   refine ⟨zerT,?_⟩
   refine fci Tryz.func39 69 fun hrd E h0=>?_
   clear hrd
   repeat' ((first | (refine draw_id 12 ?_;refine draw_le (id:=12) (σ':=⟨[(2, .iptr (sL s)),(4, .ref 1 0),(7, .b true),(9, .str nm),(11, .iptr [.sl 2 (s.lists.map clL), .sl 7 (s.cols.map colL), .str []]),(12, .iptr (xprX e)),(13, .b true)],2,[(1,some (.box zerS))]⟩) (le_of h0 rfl ⟨rfl,rfl,rfl,rfl,rfl,rfl,rfl,trivial⟩ ⟨rfl,trivial⟩ rfl rfl rfl) ?_;refine draw_m (id:=12) ⟨[(4, .ref 1 0),(5, .b true)],2,[(1,some (.box (.str nm :: .b true :: (xprX e))))]⟩ ?_ ?_) | refine call_i c1 ?_ | refine call_i c3 ?_ | refine call_i c4 ?_ |refine aops_go ?_|refine S1 ?_|refine Z1 ?_|refine Z2 ?_|(refine And.intro ?_ ?_<;>intro h<;>try first|(exfalso;omega)|exact absurd rfl h)|refine Z3 ?_|refine Z4 ?_|intro el hel hbB|intro el hel|intro ex|refine Z5 ?_|(refine free_i ?_ ?_;exact ⟨by kernel_rfl,by decide⟩)|refine allI_c ?_ ?_|exact allI_n|refine allMP_c ?_ ?_|exact allMP_n|(refine many_step ?_ ?_ ?_;kernel_rfl;kernel_rfl) | refine nc [2] [0] r1 rfl rfl rfl ⟨rfl,trivial⟩ ?_ | refine nc [2] [0] r2 rfl rfl rfl ⟨rfl,trivial⟩ ?_) <;> (try (conv=>whnf)))
   all_goals first
    | exact le_of h0 rfl ⟨rfl,rfl,trivial⟩ ⟨rfl,trivial⟩ rfl rfl rfl
    | exact ret_ct rfl rfl rfl (.refl _) rfl (.refl _) rfl
    | (exfalso;omega)
    | (exfalso;exact absurd (by assumption) (by assumption))
 ·rw [if_neg (fun h=>hy h.1)] at hZ;subst hZ
  refine ⟨⟨nm,true,e⟩,?_⟩
  refine fci Tryz.func39 69 fun hrd E h0=>?_
  clear hrd
  repeat' ((first | (refine draw_id 12 ?_;refine draw_le (id:=12) (σ':=⟨[(2, .iptr (sL s)),(4, .ref 1 0),(7, .b true),(9, .str nm),(11, .iptr [.sl 2 (s.lists.map clL), .sl 7 (s.cols.map colL), .str y]),(12, .iptr (xprX e)),(13, .b true)],2,[(1,some (.box zerS))]⟩) (le_of h0 rfl ⟨rfl,rfl,rfl,rfl,rfl,rfl,rfl,trivial⟩ ⟨rfl,trivial⟩ rfl rfl rfl) ?_;refine draw_m (id:=12) ⟨[(4, .ref 1 0),(5, .b false)],2,[(1,some (.box (.str nm :: .b true :: (xprX e))))]⟩ ?_ ?_) | refine call_i c1 ?_ | refine call_i c3 ?_ | refine call_i c4 ?_ |refine aops_go ?_|refine S1 ?_|refine Z1 ?_|refine Z2 ?_|(refine And.intro ?_ ?_<;>intro h<;>try first|(exfalso;omega)|exact absurd rfl h)|refine Z3 ?_|refine Z4 ?_|intro el hel hbB|intro el hel|intro ex|refine Z5 ?_|(refine free_i ?_ ?_;exact ⟨by kernel_rfl,by decide⟩)|refine allI_c ?_ ?_|exact allI_n|refine allMP_c ?_ ?_|exact allMP_n|(refine many_step ?_ ?_ ?_;kernel_rfl;kernel_rfl) | refine nc [2] [0] r1 rfl rfl rfl ⟨rfl,trivial⟩ ?_ | refine nc [2] [0] r2 rfl rfl rfl ⟨rfl,trivial⟩ ?_) <;> (try (conv=>whnf)))
  all_goals first
   | exact le_of h0 rfl ⟨rfl,rfl,trivial⟩ ⟨rfl,trivial⟩ rfl rfl rfl
   | exact ret_ct rfl rfl rfl (.refl _) rfl (.refl _) rfl
   | (exfalso;omega)
   | (exfalso;exact absurd (by assumption) (by assumption))
set_option maxHeartbeats 16000000 in
theorem stm_let (s:Sch) (hr:schE s = 0) (t u:List UInt8) (ht:t.length ≤ 1000000) (h1:takO bOut t = none) (h2:takO bLet t = some u) (Z:Option Stm) (hZ:Z = stm2O s false u):∃ z:Stm,FCall Tryz.prog 39 [sA s, .str t] (stmZ z Z):=by
 unfold stm2O at hZ
 have c1:=cpre_no h1 ht (by decide)
 have c2:=cpre_yes h2 ht (by decide)
 have l1:=takO_len h2
 have c3:=cutb_call u 32 (by omega)
 have l2:=dropWhile_len (notB 32) u
 have l3:((u.dropWhile (notB 32)).drop 1).length ≤ u.length:=by rw [List.length_drop];omega
 generalize decide (u.dropWhile (notB 32) ≠ []) = bx at *
 generalize u.takeWhile (notB 32) = nm at *
 generalize (u.dropWhile (notB 32)).drop 1 = v at *
 by_cases hn:nm = []
 ·rw [if_pos hn] at hZ;subst hZ;subst hn
  refine ⟨zerT,?_⟩
  refine fci Tryz.func39 69 fun hrd E h0=>?_
  clear hrd
  repeat' ((first | refine call_i c1 ?_ | refine call_i c2 ?_ | refine call_i c3 ?_ |refine aops_go ?_|refine S1 ?_|refine Z1 ?_|refine Z2 ?_|(refine And.intro ?_ ?_<;>intro h<;>try first|(exfalso;omega)|exact absurd rfl h)|refine Z3 ?_|refine Z4 ?_|intro el hel hbB|intro el hel|intro ex|refine Z5 ?_|(refine free_i ?_ ?_;exact ⟨by kernel_rfl,by decide⟩)|refine allI_c ?_ ?_|exact allI_n|refine allMP_c ?_ ?_|exact allMP_n|(refine many_step ?_ ?_ ?_;kernel_rfl;kernel_rfl) ) <;> (try (conv=>whnf)))
  all_goals first
   | exact le_of h0 rfl ⟨rfl,rfl,trivial⟩ ⟨rfl,trivial⟩ rfl rfl rfl
   | exact ret_ct rfl rfl rfl nl_zerT rfl (.refl _) rfl
   | (exfalso;omega)
   | (exfalso;exact absurd (by assumption) (by assumption))
 rw [if_neg hn] at hZ
 rcases hk:takO [61,32] v with _ | x
 ·rw [hk] at hZ;(try dsimp only at hZ);subst hZ
  have r1:=ptake_no (s:=s) hk (by omega) (by decide)
  refine ⟨zerT,?_⟩
  refine fci Tryz.func39 69 fun hrd E h0=>?_
  clear hrd
  repeat' ((first | refine call_i c1 ?_ | refine call_i c2 ?_ | refine call_i c3 ?_ |refine aops_go ?_|refine S1 ?_|refine Z1 ?_|refine Z2 ?_|(refine And.intro ?_ ?_<;>intro h<;>try first|(exfalso;omega)|exact absurd rfl h)|refine Z3 ?_|refine Z4 ?_|intro el hel hbB|intro el hel|intro ex|refine Z5 ?_|(refine free_i ?_ ?_;exact ⟨by kernel_rfl,by decide⟩)|refine allI_c ?_ ?_|exact allI_n|refine allMP_c ?_ ?_|exact allMP_n|(refine many_step ?_ ?_ ?_;kernel_rfl;kernel_rfl) | refine nc [2] [0] r1 rfl rfl rfl ⟨rfl,trivial⟩ ?_) <;> (try (conv=>whnf)))
  all_goals first
   | exact le_of h0 rfl ⟨rfl,rfl,trivial⟩ ⟨rfl,trivial⟩ rfl rfl rfl
   | exact ret_ct rfl rfl rfl nl_zerT rfl (.refl _) rfl
   | (exfalso;omega)
   | (exfalso;exact absurd (by assumption) (by assumption))
 rw [hk] at hZ;(try dsimp only at hZ)
 have r1:=ptake_yes (s:=s) hk (by omega) (by decide)
 have l4:=takO_len hk
 obtain ⟨z,r2⟩:=pexpr_call s hr (x.length + 1) x (by omega) (by omega)
 rcases hx:exprO s (x.length + 1) x with _ | ⟨e,y⟩
 ·rw [hx] at hZ r2;(try dsimp only at hZ);subst hZ
  dsimp only [hpO,tupO] at r2
  refine ⟨⟨nm,false,z⟩,?_⟩
  refine fci Tryz.func39 69 fun hrd E h0=>?_
  clear hrd
  repeat' ((first | (refine draw_id 12 ?_;refine draw_le (id:=12) (σ':=⟨[(2, .iptr (sL s)),(4, .ref 1 0),(7, .b false),(9, .str nm),(11, .iptr [.sl 2 (s.lists.map clL), .sl 7 (s.cols.map colL), .any]),(12, .iptr (xprX z)),(13, .b false)],2,[(1,some (.box zerS))]⟩) (le_of h0 rfl ⟨rfl,rfl,rfl,rfl,rfl,rfl,rfl,trivial⟩ ⟨rfl,trivial⟩ rfl rfl rfl) ?_;refine draw_m (id:=12) ⟨[(4, .ref 1 0),(5, .b false)],2,[(1,some (.box (.str nm :: .b false :: (xprX z))))]⟩ ?_ ?_) | refine call_i c1 ?_ | refine call_i c2 ?_ | refine call_i c3 ?_ |refine aops_go ?_|refine S1 ?_|refine Z1 ?_|refine Z2 ?_|(refine And.intro ?_ ?_<;>intro h<;>try first|(exfalso;omega)|exact absurd rfl h)|refine Z3 ?_|refine Z4 ?_|intro el hel hbB|intro el hel|intro ex|refine Z5 ?_|(refine free_i ?_ ?_;exact ⟨by kernel_rfl,by decide⟩)|refine allI_c ?_ ?_|exact allI_n|refine allMP_c ?_ ?_|exact allMP_n|(refine many_step ?_ ?_ ?_;kernel_rfl;kernel_rfl) | refine nc [2] [0] r1 rfl rfl rfl ⟨rfl,trivial⟩ ?_ | refine nc [2] [0] r2 rfl rfl rfl ⟨rfl,trivial⟩ ?_) <;> (try (conv=>whnf)))
  all_goals first
   | exact le_of h0 rfl ⟨rfl,rfl,trivial⟩ ⟨rfl,trivial⟩ rfl rfl rfl
   | exact ret_ct rfl rfl rfl (.refl _) rfl (.refl _) rfl
   | (exfalso;omega)
   | (exfalso;exact absurd (by assumption) (by assumption))
 rw [hx] at hZ r2;(try dsimp only at hZ)
 dsimp only [hpO,tupO] at r2
 clear hx hk
 have c4:=rightX_call s e
 by_cases hy:y = []
 ·subst hy
  cases hg:rigX s e
  ·rw [hg] at c4 hZ;rw [if_neg (by simp)] at hZ;subst hZ
   refine ⟨⟨nm,false,e⟩,?_⟩
   refine fci Tryz.func39 69 fun hrd E h0=>?_
   clear hrd
   repeat' ((first | (refine draw_id 12 ?_;refine draw_le (id:=12) (σ':=⟨[(2, .iptr (sL s)),(4, .ref 1 0),(7, .b false),(9, .str nm),(11, .iptr [.sl 2 (s.lists.map clL), .sl 7 (s.cols.map colL), .str []]),(12, .iptr (xprX e)),(13, .b true)],2,[(1,some (.box zerS))]⟩) (le_of h0 rfl ⟨rfl,rfl,rfl,rfl,rfl,rfl,rfl,trivial⟩ ⟨rfl,trivial⟩ rfl rfl rfl) ?_;refine draw_m (id:=12) ⟨[(4, .ref 1 0),(5, .b false)],2,[(1,some (.box (.str nm :: .b false :: (xprX e))))]⟩ ?_ ?_) | refine call_i c1 ?_ | refine call_i c2 ?_ | refine call_i c3 ?_ | refine call_i c4 ?_ |refine aops_go ?_|refine S1 ?_|refine Z1 ?_|refine Z2 ?_|(refine And.intro ?_ ?_<;>intro h<;>try first|(exfalso;omega)|exact absurd rfl h)|refine Z3 ?_|refine Z4 ?_|intro el hel hbB|intro el hel|intro ex|refine Z5 ?_|(refine free_i ?_ ?_;exact ⟨by kernel_rfl,by decide⟩)|refine allI_c ?_ ?_|exact allI_n|refine allMP_c ?_ ?_|exact allMP_n|(refine many_step ?_ ?_ ?_;kernel_rfl;kernel_rfl) | refine nc [2] [0] r1 rfl rfl rfl ⟨rfl,trivial⟩ ?_ | refine nc [2] [0] r2 rfl rfl rfl ⟨rfl,trivial⟩ ?_) <;> (try (conv=>whnf)))
   all_goals first
    | exact le_of h0 rfl ⟨rfl,rfl,trivial⟩ ⟨rfl,trivial⟩ rfl rfl rfl
    | exact ret_ct rfl rfl rfl (.refl _) rfl (.refl _) rfl
    | (exfalso;omega)
    | (exfalso;exact absurd (by assumption) (by assumption))
  ·rw [hg] at c4 hZ;rw [if_pos ⟨rfl,rfl⟩] at hZ;subst hZ
   refine ⟨zerT,?_⟩
   refine fci Tryz.func39 69 fun hrd E h0=>?_
   clear hrd
   repeat' ((first | (refine draw_id 12 ?_;refine draw_le (id:=12) (σ':=⟨[(2, .iptr (sL s)),(4, .ref 1 0),(7, .b false),(9, .str nm),(11, .iptr [.sl 2 (s.lists.map clL), .sl 7 (s.cols.map colL), .str []]),(12, .iptr (xprX e)),(13, .b true)],2,[(1,some (.box zerS))]⟩) (le_of h0 rfl ⟨rfl,rfl,rfl,rfl,rfl,rfl,rfl,trivial⟩ ⟨rfl,trivial⟩ rfl rfl rfl) ?_;refine draw_m (id:=12) ⟨[(4, .ref 1 0),(5, .b true)],2,[(1,some (.box (.str nm :: .b false :: (xprX e))))]⟩ ?_ ?_) | refine call_i c1 ?_ | refine call_i c2 ?_ | refine call_i c3 ?_ | refine call_i c4 ?_ |refine aops_go ?_|refine S1 ?_|refine Z1 ?_|refine Z2 ?_|(refine And.intro ?_ ?_<;>intro h<;>try first|(exfalso;omega)|exact absurd rfl h)|refine Z3 ?_|refine Z4 ?_|intro el hel hbB|intro el hel|intro ex|refine Z5 ?_|(refine free_i ?_ ?_;exact ⟨by kernel_rfl,by decide⟩)|refine allI_c ?_ ?_|exact allI_n|refine allMP_c ?_ ?_|exact allMP_n|(refine many_step ?_ ?_ ?_;kernel_rfl;kernel_rfl) | refine nc [2] [0] r1 rfl rfl rfl ⟨rfl,trivial⟩ ?_ | refine nc [2] [0] r2 rfl rfl rfl ⟨rfl,trivial⟩ ?_) <;> (try (conv=>whnf)))
   all_goals first
    | exact le_of h0 rfl ⟨rfl,rfl,trivial⟩ ⟨rfl,trivial⟩ rfl rfl rfl
    | exact ret_ct rfl rfl rfl (.refl _) rfl (.refl _) rfl
    | (exfalso;omega)
    | (exfalso;exact absurd (by assumption) (by assumption))
 ·rw [if_neg (fun h=>hy h.1)] at hZ;subst hZ
  refine ⟨⟨nm,false,e⟩,?_⟩
  refine fci Tryz.func39 69 fun hrd E h0=>?_
  clear hrd
  repeat' ((first | (refine draw_id 12 ?_;refine draw_le (id:=12) (σ':=⟨[(2, .iptr (sL s)),(4, .ref 1 0),(7, .b false),(9, .str nm),(11, .iptr [.sl 2 (s.lists.map clL), .sl 7 (s.cols.map colL), .str y]),(12, .iptr (xprX e)),(13, .b true)],2,[(1,some (.box zerS))]⟩) (le_of h0 rfl ⟨rfl,rfl,rfl,rfl,rfl,rfl,rfl,trivial⟩ ⟨rfl,trivial⟩ rfl rfl rfl) ?_;refine draw_m (id:=12) ⟨[(4, .ref 1 0),(5, .b false)],2,[(1,some (.box (.str nm :: .b false :: (xprX e))))]⟩ ?_ ?_) | refine call_i c1 ?_ | refine call_i c2 ?_ | refine call_i c3 ?_ | refine call_i c4 ?_ |refine aops_go ?_|refine S1 ?_|refine Z1 ?_|refine Z2 ?_|(refine And.intro ?_ ?_<;>intro h<;>try first|(exfalso;omega)|exact absurd rfl h)|refine Z3 ?_|refine Z4 ?_|intro el hel hbB|intro el hel|intro ex|refine Z5 ?_|(refine free_i ?_ ?_;exact ⟨by kernel_rfl,by decide⟩)|refine allI_c ?_ ?_|exact allI_n|refine allMP_c ?_ ?_|exact allMP_n|(refine many_step ?_ ?_ ?_;kernel_rfl;kernel_rfl) | refine nc [2] [0] r1 rfl rfl rfl ⟨rfl,trivial⟩ ?_ | refine nc [2] [0] r2 rfl rfl rfl ⟨rfl,trivial⟩ ?_) <;> (try (conv=>whnf)))
  all_goals first
   | exact le_of h0 rfl ⟨rfl,rfl,trivial⟩ ⟨rfl,trivial⟩ rfl rfl rfl
   | exact ret_ct rfl rfl rfl (.refl _) rfl (.refl _) rfl
   | (exfalso;omega)
   | (exfalso;exact absurd (by assumption) (by assumption))
theorem pstm_call (s:Sch) (hr:schE s = 0) (t:List UInt8) (ht:t.length ≤ 1000000):∃ z:Stm,FCall Tryz.prog 39 [sA s, .str t] (stmZ z (stmO s t)):=by
 rcases h1:takO bOut t with _ | u
 ·rcases h2:takO bLet t with _ | u
  ·have e:stmO s t = none:=by unfold stmO;rw [h1];dsimp only;rw [h2]
   rw [e]
   exact ⟨zerT,stm_no s t ht h1 h2⟩
  ·have e:stmO s t = stm2O s false u:=by unfold stmO;rw [h1];dsimp only;rw [h2]
   exact stm_let s hr t u ht h1 h2 _ e
 ·have e:stmO s t = stm2O s true u:=by unfold stmO;rw [h1]
  exact stm_out s hr t u ht h1 _ e
end Go.Proofs.YtjmbhlgocikfiaaGreatDoor
