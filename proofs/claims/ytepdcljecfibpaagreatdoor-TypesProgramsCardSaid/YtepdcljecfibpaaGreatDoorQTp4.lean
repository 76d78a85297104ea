/- Chapter 17: the program's kinds of programs. -/
import Derived.Test.YtepdcljecfibpaaGreatDoorQTp3
namespace Go.Proofs.YtepdcljecfibpaaGreatDoor
open Go Go.Av
attribute [local irreducible] AWp AOps AAny MAny DQ retQ retG St.le FCall GCall
set_option linter.unusedVariables false
set_option linter.unnecessarySimpa false
set_option linter.unusedSimpArgs false
set_option maxRecDepth 100000
theorem proS_ok {s : Sch} {l : List Stm} (h : (proS s l).2 = 0) : l.length ≤ 30 := by
  unfold proS at h
  split at h
  · split at h
    · cases h
    · omega
  · exact absurd h (by assumption)
abbrev tup3K (z : List Int × Int × Int) : AV := .tup [.sl 1 (z.1.map wA), .i z.2.1, .i z.2.2]
set_option maxHeartbeats 16000000 in
theorem tProgram_call (s : Sch) (picks : List Pk) (l : List Stm) : FCall Tryz.prog 11 [sA s, .sl 2 (picks.map pkL), .sl 21 (l.map stmL)] (tup3K (typS s picks l)) := by
  have h1 := pCheck_call s l
  have hok := proS_ok (s := s) (l := l)
  have hex := fun bs e => texpr_call s picks bs e
  unfold typS
  generalize proS s l = z at *
  obtain ⟨z1, z2⟩ := z
  dsimp only at h1 hok ⊢
  refine fcall_intro (n := 63) Tryz.func11 (by kernel_rfl) rfl rfl rfl rfl rfl (by intro t T h; cases h) (fun hrd E h0 => ?_)
  have hlen : l.length ≤ 9223372036854775807 := by
    have := (hrd (.sl 21 (l.map stmL)) (by simp)).sl
    simpa using this
  clear hrd
  repeat' ((first | refine call_i h1 ?_ |refine aops_go ?_|refine awp_go ?_|refine guard_tt ?_|refine guard_ff ?_|refine guard_tf ?_|refine guard_ft ?_|refine cond_t ?_|refine cond_f ?_|refine Z1 ?_|refine Z2 ?_|refine stp ?_|(refine And.intro ?_ ?_<;>intro h<;>try first|(exfalso;omega)|exact absurd rfl h)|refine Z3 ?_|refine Z4 ?_|intro el hel hbB|intro el hel|intro ex|refine Z5 ?_|(refine free_i ?_ ?_;exact ⟨by kernel_rfl,by decide⟩)|refine allI_c ?_ ?_|exact allI_n|refine allMP_c ?_ ?_|exact allMP_n|(refine many_step ?_ ?_ ?_;kernel_rfl;kernel_rfl)) <;> (try (conv => whnf)))
  all_goals first
    | (rw [if_neg (by omega)]; exact ret_vs (rs := [.tmp 6, .tmp 7, .tmp 8]) (vs := [.sl 1 [], .i z1, .i z2]) rfl ⟨⟨_, rfl, .nil 1⟩, ⟨_, rfl, .refl _⟩, ⟨_, rfl, .refl _⟩, trivial⟩ rfl)
    | skip
  have hz : z2 = 0 := by omega
  have h30 := hok hz
  rw [if_pos hz]
  clear h1 hok
  refine loop_i (ι := Nat × List Bnd) (fun x => ⟨[(1, .sl 2 (picks.map pkL)), (2, .sl 21 (l.map stmL)), (3, .ref 0 0), (11, .row 1 0 (x.2.map (·.kind)).length), (12, .row 2 0 x.2.length), (27, .sl 21 (l.map stmL)), (28, .i l.length), (29, .i x.1)], 3, [(0, some (.box (sL s))), (1, some (.row 3 1 0 ((x.2.map (·.kind)).map wA))), (2, some (.row 101 26 0 (x.2.map bndL)))]⟩) (fun x => (x.1 ≤ l.length ∧ x.2.length = x.1) ∧ typK s picks l [] 0 = typK s picks (l.drop x.1) x.2 x.1) (fun x => l.length - x.1) (0, []) ⟨⟨Nat.zero_le _, rfl⟩, rfl⟩
    (le_trans (le_adopt (d := 11) (e := 3) (sz := 1) rfl) (le_trans (le_adopt (d := 12) (e := 101) (sz := 26) rfl) (le_of h0 rfl ⟨rfl, rfl, rfl, rfl, rfl, rfl, rfl, rfl, trivial⟩ ⟨rfl, ⟨0, rfl⟩, ⟨0, rfl⟩, trivial⟩ rfl rfl rfl))) (fun x hI => ?_)
  obtain ⟨k, bs⟩ := x
  obtain ⟨⟨hk, hb⟩, hI⟩ := hI
  dsimp only at hk hb hI ⊢
  rw [hI]
  by_cases hlt : k < l.length
  · obtain ⟨t, ht⟩ : ∃ t, l[k]? = some t := ⟨_, List.getElem?_eq_getElem hlt⟩
    have he := hex bs t.x
    rw [dropc ht, typK]
    have hkl : (bs.map (·.kind)).length ≤ 30 := by rw [List.length_map]; omega
    have hI2 : (exkS s picks bs t.x).2 = 0 → typK s picks l [] 0 = typK s picks (l.drop (k + 1)) (bs ++ [⟨t.name, (exkS s picks bs t.x).1⟩]) (k + 1) := fun h => by rw [hI, dropc ht, typK, if_pos h]
    generalize exkS s picks bs t.x = w at *
    obtain ⟨w1, w2⟩ := w
    dsimp only at he hI2 ⊢
    have hmk : (bs ++ [(⟨t.name, w1⟩ : Bnd)]).map (·.kind) = bs.map (·.kind) ++ [w1] := by rw [List.map_append]; rfl
    generalize bs.map (·.kind) = A at *
    repeat' ((first | (refine each_knownm (x := t) ht (by omega) ?_) | refine ncall_lend [2] he rfl rfl rfl rfl rfl rfl ?_ |refine aops_go ?_|refine awp_go ?_|refine guard_tt ?_|refine guard_ff ?_|refine guard_tf ?_|refine guard_ft ?_|refine cond_t ?_|refine cond_f ?_|refine Z1 ?_|refine Z2 ?_|refine stp ?_|(refine And.intro ?_ ?_<;>intro h<;>try first|(exfalso;omega)|exact absurd rfl h)|refine Z3 ?_|refine Z4 ?_|intro el hel hbB|intro el hel|intro ex|refine Z5 ?_|(refine free_i ?_ ?_;exact ⟨by kernel_rfl,by decide⟩)|refine allI_c ?_ ?_|exact allI_n|refine allMP_c ?_ ?_|exact allMP_n|(refine many_step ?_ ?_ ?_;kernel_rfl;kernel_rfl)) <;> (try (conv => whnf)))
    all_goals first
      | (exfalso; omega)
      | (rw [if_neg (by omega)]; exact ret_vs (rs := [.tmp 6, .tmp 7, .tmp 8]) (vs := [.sl 1 [], .i k, .i w2]) rfl ⟨⟨_, rfl, .nil 1⟩, ⟨_, rfl, .refl _⟩, ⟨_, rfl, .refl _⟩, trivial⟩ rfl)
      | (refine ⟨(k + 1, bs ++ [⟨t.name, w1⟩]), ⟨⟨by dsimp only; omega, by dsimp only; rw [List.length_append, hb]; rfl⟩, by dsimp only; rw [if_pos (by omega)]⟩, by dsimp only; omega, ?_⟩
         dsimp only
         rw [hmk]
         exact le_of h0 rfl ⟨rfl, rfl, rfl, congrArg (fun z : Nat => some (AV.row 1 0 z)) (by rw [List.length_append]; rfl), congrArg (fun z : Nat => some (AV.row 2 0 z)) (by rw [List.length_append]; rfl), rfl, rfl, rfl, trivial⟩ ⟨rfl, ⟨_, congrArg (Blk.row 3 1 _) (by rw [List.map_append]; rfl)⟩, ⟨_, congrArg (Blk.row 101 26 _) (by rw [List.map_append]; rfl)⟩, trivial⟩ rfl rfl rfl)
  · obtain rfl : k = l.length := by omega
    rw [List.drop_length, typK]
    generalize bs.map (·.kind) = A at *
    repeat' ((first|refine aops_go ?_|refine awp_go ?_|refine guard_tt ?_|refine guard_ff ?_|refine guard_tf ?_|refine guard_ft ?_|refine cond_t ?_|refine cond_f ?_|refine Z1 ?_|refine Z2 ?_|refine stp ?_|(refine And.intro ?_ ?_<;>intro h<;>try first|(exfalso;omega)|exact absurd rfl h)|refine Z3 ?_|refine Z4 ?_|intro el hel hbB|intro el hel|intro ex|refine Z5 ?_|(refine free_i ?_ ?_;exact ⟨by kernel_rfl,by decide⟩)|refine allI_c ?_ ?_|exact allI_n|refine allMP_c ?_ ?_|exact allMP_n|(refine many_step ?_ ?_ ?_;kernel_rfl;kernel_rfl)) <;> (try (conv => whnf)))
    all_goals first
      | (exfalso; omega)
      | exact ret_tmp3 rfl rfl rfl rfl
end Go.Proofs.YtepdcljecfibpaaGreatDoor
