/- Chapter 16: which nesting is permitted. -/
import Derived.Test.YtjmbhlgocikfiaaGreatDoorQAw8
import Derived.Test.YtjmbhlgocikfiaaGreatDoorQF5
import Derived.Test.YtjmbhlgocikfiaaGreatDoorQB4
namespace Go.Proofs.YtjmbhlgocikfiaaGreatDoor
open Go Go.Av
attribute [local irreducible] AWp AOps AAny MAny DQ retQ retG St.le FCall GCall
set_option linter.unusedVariables false
set_option linter.unnecessarySimpa false
set_option linter.unusedSimpArgs false
set_option maxRecDepth 100000
def exD : Sch := ⟨[], [⟨[119, 104, 111], 1, 0, 0, 0, [], false⟩]⟩
abbrev exDA : AV := .agg [.v (.slice none 0 0), .sl 7 [[.str [119, 104, 111], .i 1, .i 0, .i 0, .i 0, .v (.slice none 0 0), .b false]]]
theorem exDA_nl : NL exDA (sA exD) := nl_agg ⟨.nil 2, nl_sl ⟨⟨.refl _, .refl _, .refl _, .refl _, .refl _, .nil 1, .refl _, trivial⟩, trivial⟩, trivial⟩
def intX (i : Int) : Xpr := .mk 1 i [] 0 [] [] zX zX []
abbrev intC (i : Int) : List AV := [.i 1, .i i, .str [], .i 0, nilR, nilR, .i 0, .i 0, .i 0, .i 0, .i 0, nilR, .i 0, .i 0, .i 0, .i 0, .i 0, nilR, nilR]
abbrev mulC (a b : List AV) : List AV := [.i 8, .i 0, .str [], .i 0, nilR, nilR, .i 0, .i 0, .i 0, .i 0, .i 0, nilR, .i 0, .i 0, .i 0, .i 0, .i 0, nilR, .sl 19 [a, b]]
def dX (w : Bool) : Nat → Xpr
  | 0 => intX 1
  | i + 1 => .mk 8 0 [] 0 [] [] zX zX [dX w i, if w = true ∧ i + 1 < 6 then dX w i else intX ((i + 1 : Nat) : Int)]
def szD (w : Bool) : Nat → Nat
  | 0 => 1
  | i + 1 => if w = true ∧ i + 1 < 6 then 2 * szD w i + 1 else szD w i + 2
def rawD (w : Bool) : Nat → List AV
  | 0 => intC 1
  | i + 1 => mulC (rawD w i) (if w = true ∧ i + 1 < 6 then rawD w i else intC ((i + 1 : Nat) : Int))
theorem int_nl (i : Int) : NL (.agg (intC i)) (xprA (intX i)) := nl_xpr (intX i) (.nil _) (.nil _) (.nil _) (.nil _) (.nil _)
theorem nls_of : ∀ {l m : List AV}, l.length = m.length → (∀ (j : Nat) x y, l[j]? = some x → m[j]? = some y → NL x y) → NLs l m
  | [], [], _, _ => trivial
  | x :: r, y :: s, h, hh => ⟨hh 0 x y rfl rfl, nls_of (by simpa using h) fun j a b ha hb => hh (j + 1) a b (by simpa using ha) (by simpa using hb)⟩
  | [], _ :: _, h, _ => by simp at h
  | _ :: _, [], h, _ => by simp at h
theorem nl_aggs {l m : List AV} (h : NL (.agg l) (.agg m)) (hl : l.length = m.length) : NLs l m := by
  cases h with
  | refl => exact NLs.refl _
  | agg l m h hh => exact nls_of h hh
theorem raw_nl (w : Bool) : ∀ i, NL (.agg (rawD w i)) (xprA (dX w i)) ∧ (rawD w i).length = 19
  | 0 => ⟨int_nl 1, rfl⟩
  | i + 1 => by
    obtain ⟨h1, h2⟩ := raw_nl w i
    refine ⟨?_, rfl⟩
    have hb : NL (.agg (if w = true ∧ i + 1 < 6 then rawD w i else intC ((i + 1 : Nat) : Int))) (xprA (if w = true ∧ i + 1 < 6 then dX w i else intX ((i + 1 : Nat) : Int))) ∧ (if w = true ∧ i + 1 < 6 then rawD w i else intC ((i + 1 : Nat) : Int)).length = 19 := by
      split
      · exact ⟨h1, h2⟩
      · exact ⟨int_nl _, rfl⟩
    unfold rawD dX
    generalize (if w = true ∧ i + 1 < 6 then rawD w i else intC ((i + 1 : Nat) : Int)) = B at *
    generalize (if w = true ∧ i + 1 < 6 then dX w i else intX ((i + 1 : Nat) : Int)) = Y at *
    generalize rawD w i = A at *
    generalize dX w i = X at *
    refine nl_xpr (.mk 8 0 [] 0 [] [] zX zX [X, Y]) (.nil _) (.nil _) (.nil _) (.nil _) ?_
    rw [map_xpr]
    exact nl_sl ⟨nl_aggs h1 (by rw [h2]; rfl), nl_aggs hb.1 (by rw [hb.2]; rfl), trivial⟩
theorem szD_lt (w : Bool) (i : Nat) (h : i ≤ 12) : szD w i < 1000 := by
  have : ∀ (w : Bool) (i : Fin 13), szD w i.val < 1000 := by decide +kernel
  exact this w ⟨i, by omega⟩
def deepS (w : Bool) (m : Nat) : Int × Int := if 60 < szD w m then (0, 1) else if 10 < m + 1 then (0, 22) else (1, 0)
theorem deep_law (w : Bool) (m : Nat) (h : m ≤ 12) : proS exD [⟨[97], false, dX w m⟩] = deepS w m := by
  have : ∀ (w : Bool) (m : Fin 13), proS exD [⟨[97], false, dX w m.val⟩] = deepS w m.val := by decide +kernel
  exact this w ⟨m, by omega⟩
set_option maxHeartbeats 8000000 in
theorem deep_call (n : Nat) (hn : n < 256) (w : Bool) : FCall Tryz.prog 6 [.v (.int .u8 (n : Int)), .b w] (.b true) := by
  have ha := awake8_call
  have hm : n % 13 ≤ 12 := by omega
  have hc : FCall Tryz.prog 14 [exDA, .sl 21 [.str [97] :: .b false :: rawD w (n % 13)]] (.tup [.i (deepS w (n % 13)).1, .i (deepS w (n % 13)).2]) := by
    have h := pCheck_call exD [⟨[97], false, dX w (n % 13)⟩]
    rw [deep_law w _ hm] at h
    obtain ⟨r1, r2⟩ := raw_nl w (n % 13)
    exact fcall_nl h ⟨exDA_nl, nl_sl ⟨⟨.refl _, .refl _, nl_aggs r1 (by rw [r2]; rfl)⟩, trivial⟩, trivial⟩
  generalize hk : n % 13 = k at *
  have hrem : Int.tmod (IntKind.i64.wrap (n : Int)) 13 = (k : Int) := by
    have hw : ∀ n : Fin 256, Int.tmod (IntKind.i64.wrap ((n.val : Nat) : Int)) 13 = ((n.val % 13 : Nat) : Int) := by decide +kernel
    rw [← hk]; exact hw ⟨n, hn⟩
  clear hk
  have hdp : (60 < szD w k ∧ deepS w k = (0, 1)) ∨ (¬ 60 < szD w k ∧ 10 < k + 1 ∧ deepS w k = (0, 22)) ∨ (¬ 60 < szD w k ∧ ¬ 10 < k + 1 ∧ deepS w k = (1, 0)) := by
    unfold deepS
    by_cases h1 : 60 < szD w k
    · exact .inl ⟨h1, if_pos h1⟩
    · rw [if_neg h1]
      by_cases h2 : 10 < k + 1
      · exact .inr (.inl ⟨h1, h2, if_pos h2⟩)
      · exact .inr (.inr ⟨h1, h2, if_neg h2⟩)
  refine fci Tryz.func6 68 fun hrd E h0 => ?_
  clear hrd
  repeat' ((first | (refine side_i ?_ ?_; (rw [hrem]; omega)) |refine aops_go ?_|refine S1 ?_|refine Z1 ?_|refine Z2 ?_|(refine And.intro ?_ ?_<;>intro h<;>try first|(exfalso;omega)|exact absurd rfl h)|refine Z3 ?_|refine Z4 ?_|intro el hel hbB|intro el hel|intro ex|refine Z5 ?_|(refine free_i ?_ ?_;exact ⟨by kernel_rfl,by decide⟩)|refine allI_c ?_ ?_|exact allI_n|refine allMP_c ?_ ?_|exact allMP_n|(refine many_step ?_ ?_ ?_;kernel_rfl;kernel_rfl)) <;> (try (conv => whnf)))
  refine loop_i (ι := Nat) (fun i => ⟨[(1, .b w), (5, .iptr [.v (.slice none 0 0), .sl 7 [[.str [119, 104, 111], .i 1, .i 0, .i 0, .i 0, .v (.slice none 0 0), .b false]]]), (6, .i (1 + (k : Int))), (7, .ref 1 0), (8, .i (szD w i)), (9, .i (1 + (i : Int)))], 2, [(1, some (.box (rawD w i)))]⟩) (fun i => i ≤ k) (fun i => k - i) 0 (Nat.zero_le _)
    (le_of h0 rfl ⟨rfl, rfl, congrArg (fun z : Int => some (AV.i (1 + z))) hrem, rfl, rfl, rfl, trivial⟩ ⟨rfl, trivial⟩ rfl rfl rfl) (fun i hi => ?_)
  clear hrem
  have hsz := szD_lt w i (by omega)
  by_cases hlt : i < k
  · clear hc hdp ha
    by_cases hw : w = true ∧ i + 1 < 6
    · have hR : rawD w (i + 1) = mulC (rawD w i) (rawD w i) := by rw [rawD, if_pos hw]
      have hS : szD w (i + 1) = 2 * szD w i + 1 := by rw [szD, if_pos hw]
      obtain ⟨rfl, h6⟩ := hw
      rcases i with _ | j
      all_goals (
        dsimp only [rawD]
        repeat' ((first|refine aops_go ?_|refine S1 ?_|refine Z1 ?_|refine Z2 ?_|(refine And.intro ?_ ?_<;>intro h<;>try first|(exfalso;omega)|exact absurd rfl h)|refine Z3 ?_|refine Z4 ?_|intro el hel hbB|intro el hel|intro ex|refine Z5 ?_|(refine free_i ?_ ?_;exact ⟨by kernel_rfl,by decide⟩)|refine allI_c ?_ ?_|exact allI_n|refine allMP_c ?_ ?_|exact allMP_n|(refine many_step ?_ ?_ ?_;kernel_rfl;kernel_rfl)) <;> (try (conv => whnf)))
        all_goals first
          | exact ⟨0 + 1, by omega, by omega, le_of h0 rfl ⟨rfl, rfl, rfl, rfl, congrArg (fun z : Int => some (AV.i z)) (by rw [hS]; omega), congrArg (fun z : Int => some (AV.i z)) (by omega), trivial⟩ ⟨congrArg Blk.box hR, trivial⟩ rfl rfl rfl⟩
          | exact ⟨j + 1 + 1, by omega, by omega, le_of h0 rfl ⟨rfl, rfl, rfl, rfl, congrArg (fun z : Int => some (AV.i z)) (by rw [hS]; omega), congrArg (fun z : Int => some (AV.i z)) (by omega), trivial⟩ ⟨congrArg Blk.box hR, trivial⟩ rfl rfl rfl⟩
          | (exfalso; omega)
          | trace_state)
    · have hR : rawD w (i + 1) = mulC (rawD w i) (intC (1 + (i : Int))) := by rw [rawD, if_neg hw, show ((i + 1 : Nat) : Int) = 1 + (i : Int) by omega]
      have hS : szD w (i + 1) = szD w i + 2 := by rw [szD, if_neg hw]
      cases w
      · rcases i with _ | j
        all_goals (
          dsimp only [rawD]
          repeat' ((first|refine aops_go ?_|refine S1 ?_|refine Z1 ?_|refine Z2 ?_|(refine And.intro ?_ ?_<;>intro h<;>try first|(exfalso;omega)|exact absurd rfl h)|refine Z3 ?_|refine Z4 ?_|intro el hel hbB|intro el hel|intro ex|refine Z5 ?_|(refine free_i ?_ ?_;exact ⟨by kernel_rfl,by decide⟩)|refine allI_c ?_ ?_|exact allI_n|refine allMP_c ?_ ?_|exact allMP_n|(refine many_step ?_ ?_ ?_;kernel_rfl;kernel_rfl)) <;> (try (conv => whnf)))
          all_goals first
            | exact ⟨0 + 1, by omega, by omega, le_of h0 rfl ⟨rfl, rfl, rfl, rfl, congrArg (fun z : Int => some (AV.i z)) (by rw [hS]; omega), congrArg (fun z : Int => some (AV.i z)) (by omega), trivial⟩ ⟨congrArg Blk.box hR, trivial⟩ rfl rfl rfl⟩
            | exact ⟨j + 1 + 1, by omega, by omega, le_of h0 rfl ⟨rfl, rfl, rfl, rfl, congrArg (fun z : Int => some (AV.i z)) (by rw [hS]; omega), congrArg (fun z : Int => some (AV.i z)) (by omega), trivial⟩ ⟨congrArg Blk.box hR, trivial⟩ rfl rfl rfl⟩
            | (exfalso; omega)
            | trace_state)
      · have h6 : ¬ i + 1 < 6 := fun h => hw ⟨rfl, h⟩
        rcases i with _ | j
        all_goals (
          dsimp only [rawD]
          repeat' ((first|refine aops_go ?_|refine S1 ?_|refine Z1 ?_|refine Z2 ?_|(refine And.intro ?_ ?_<;>intro h<;>try first|(exfalso;omega)|exact absurd rfl h)|refine Z3 ?_|refine Z4 ?_|intro el hel hbB|intro el hel|intro ex|refine Z5 ?_|(refine free_i ?_ ?_;exact ⟨by kernel_rfl,by decide⟩)|refine allI_c ?_ ?_|exact allI_n|refine allMP_c ?_ ?_|exact allMP_n|(refine many_step ?_ ?_ ?_;kernel_rfl;kernel_rfl)) <;> (try (conv => whnf)))
          all_goals first
            | exact ⟨0 + 1, by omega, by omega, le_of h0 rfl ⟨rfl, rfl, rfl, rfl, congrArg (fun z : Int => some (AV.i z)) (by rw [hS]; omega), congrArg (fun z : Int => some (AV.i z)) (by omega), trivial⟩ ⟨congrArg Blk.box hR, trivial⟩ rfl rfl rfl⟩
            | exact ⟨j + 1 + 1, by omega, by omega, le_of h0 rfl ⟨rfl, rfl, rfl, rfl, congrArg (fun z : Int => some (AV.i z)) (by rw [hS]; omega), congrArg (fun z : Int => some (AV.i z)) (by omega), trivial⟩ ⟨congrArg Blk.box hR, trivial⟩ rfl rfl rfl⟩
            | (exfalso; omega)
            | trace_state)
  · obtain rfl : i = k := by omega
    rcases i with _ | j
    all_goals (
      dsimp only [rawD] at hc ⊢
      rcases hdp with ⟨d1, d2⟩ | ⟨d1, d3, d2⟩ | ⟨d1, d3, d2⟩
      all_goals (
        rw [d2] at hc
        dsimp only at hc
        repeat' ((first | refine call_i hc ?_ | refine call_i ha ?_ |refine aops_go ?_|refine S1 ?_|refine Z1 ?_|refine Z2 ?_|(refine And.intro ?_ ?_<;>intro h<;>try first|(exfalso;omega)|exact absurd rfl h)|refine Z3 ?_|refine Z4 ?_|intro el hel hbB|intro el hel|intro ex|refine Z5 ?_|(refine free_i ?_ ?_;exact ⟨by kernel_rfl,by decide⟩)|refine allI_c ?_ ?_|exact allI_n|refine allMP_c ?_ ?_|exact allMP_n|(refine many_step ?_ ?_ ?_;kernel_rfl;kernel_rfl)) <;> (try (conv => whnf)))
        all_goals first
          | exact ret_tmp rfl rfl
          | (exfalso; omega)
          | (exfalso; rw [szD] at d1; omega)
          | trace_state))
theorem deep_all (l : List AV) (h : AShapes Tryz.prog Tryz.f6.params.toList l) : FCall Tryz.prog 6 l (.b true) := by
  obtain ⟨a1, r1, rfl, h1, a2, r2, rfl, h2, rfl⟩ := h
  obtain ⟨n, hn, rfl⟩ := ash_u8 Tryz.underlying5 h1
  obtain ⟨w, rfl⟩ := ash_bool Tryz.underlying4 h2
  exact deep_call n hn w
end Go.Proofs.YtjmbhlgocikfiaaGreatDoor
