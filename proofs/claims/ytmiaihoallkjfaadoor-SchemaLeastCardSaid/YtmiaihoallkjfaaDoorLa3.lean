/- SchemaLeast: the least level divides as the given one, and one level less does not. -/
import Derived.Test.YtmiaihoallkjfaaDoorB12
import Derived.Test.YtmiaihoallkjfaaDoorB15
import Derived.Test.YtmiaihoallkjfaaDoorB12
import Derived.Test.YtmiaihoallkjfaaDoorB4
namespace Go.Proofs.YtmiaihoallkjfaaDoor
open Go Go.Av
attribute [local irreducible] AWp AOps AAny MAny DQ retQ retG St.le FCall GCall
set_option linter.unusedVariables false
set_option linter.unnecessarySimpa false
set_option linter.unusedSimpArgs false
set_option maxRecDepth 100000

theorem loop_le {P : Program} {E : Env} {n : Nat} {c : Go.Code} {σ σ' : St} {Q : Exit → St → Prop} (h : St.le E n σ σ') (k : LoopP P E n c σ' Q) : LoopP P E n c σ Q := ⟨awp_weaken h k.h⟩
theorem take_mapc {f : Int → Int} {al : List Int} {j : Nat} {x : Int} (h : al[j]? = some x) : ((al.take (j + 1)).map f).map wA = ((al.take j).map f).map wA ++ [wA (f x)] := by
  rw [takec h, List.map_append, List.map_append]; rfl
theorem take_get {f : Int → Int} {al : List Int} {n q : Nat} {x : Int} (h : ((al.take n).map f)[q]? = some x) : ∃ y, al[q]? = some y ∧ x = f y := by
  rw [List.getElem?_map, Option.map_eq_some_iff] at h
  obtain ⟨y, hy, rfl⟩ := h
  have hq : q < n := by
    have := (List.getElem?_eq_some_iff.1 hy).1
    rw [List.length_take] at this; omega
  rw [List.getElem?_take_of_lt hq] at hy
  exact ⟨y, hy, rfl⟩
theorem a_two {A al : List Int} {f : Int → Int} {j k : Nat} (hA : ∀ (q : Nat) x, A[q]? = some x → ∃ y, al[q]? = some y ∧ x = f y) {a1 a2 : Int} (h1 : A[j]? = some a1) (h2 : A[k]? = some a2) : ∃ x y, al[j]? = some x ∧ al[k]? = some y ∧ a1 = f x ∧ a2 = f y := by
  obtain ⟨x, hx, e1⟩ := hA j a1 h1
  obtain ⟨y, hy, e2⟩ := hA k a2 h2
  exact ⟨x, y, hx, hy, e1, e2⟩
theorem ab_two {A B al : List Int} {f g : Int → Int} {j k : Nat} (hA : ∀ (q : Nat) x, A[q]? = some x → ∃ y, al[q]? = some y ∧ x = f y) (hB : ∀ (q : Nat) x, B[q]? = some x → ∃ y, al[q]? = some y ∧ x = g y) {a1 a2 b1 b2 : Int} (h1 : A[j]? = some a1) (h2 : A[k]? = some a2) (h3 : B[j]? = some b1) (h4 : B[k]? = some b2) : ∃ x y, al[j]? = some x ∧ al[k]? = some y ∧ a1 = f x ∧ a2 = f y ∧ b1 = g x ∧ b2 = g y := by
  obtain ⟨x, y, hx, hy, e1, e2⟩ := a_two hA h1 h2
  obtain ⟨x', y', hx', hy', e3, e4⟩ := a_two hB h3 h4
  rw [hx] at hx'
  rw [hy] at hy'
  cases hx'
  cases hy'
  exact ⟨x, y, hx, hy, e1, e2, e3, e4⟩
set_option maxHeartbeats 4000000 in
theorem ldivides_call (s : Sch) (i o L : Int) (al : List Int) (hal : al.length ≤ 1000) : FCall Tryd.prog 46 [sA s, .i i, .i o, .i L, .sl 1 (al.map wA)] (.b (divB (coaS s i L) (coaS s i o) al)) := by
  have hco := fun x v => coarse_call s i x v
  refine fcall_intro (n := 68) Tryd.func46 (by kernel_rfl) rfl rfl rfl rfl rfl (by intro t T h; cases h) (fun hrd E h0 => ?_)
  have hlen : al.length ≤ 9223372036854775807 := by
    have := (hrd (.sl 1 (al.map wA)) (by simp)).sl
    simpa using this
  clear hrd
  generalize hf : coaS s i L = f at *
  generalize hg : coaS s i o = g at *
  have hcf : ∀ v, FCall Tryd.prog 38 [sA s, .i i, .i L, .i v] (.i (f v)) := fun v => by rw [← hf]; exact hco L v
  have hcg : ∀ v, FCall Tryd.prog 38 [sA s, .i i, .i o, .i v] (.i (g v)) := fun v => by rw [← hg]; exact hco o v
  clear hf hg hco
  repeat' ((first | refine aops_go ?_ | refine awp_go ?_ | refine var_i ?_ | refine fld_i ?_ | refine sl_i ?_ | refine arr_i ?_ | refine strt_i ?_ | refine boolt_i ?_ | refine zero_i ?_ | refine build_i ?_ | (refine row_i ?_ ?_; rfl) | refine map_i ?_ | refine guard_tt ?_ | refine guard_ff ?_ | refine guard_tf ?_ | refine guard_ft ?_ | (refine guard_dt (fun h => ?_) (fun h => ?_) <;> try (first | (exfalso; omega) | exact absurd rfl h)) | (refine guard_df (fun h => ?_) (fun h => ?_) <;> try (first | (exfalso; omega) | exact absurd rfl h)) | (refine guard_ndt (fun h => ?_) (fun h => ?_) <;> try (first | (exfalso; omega) | exact absurd rfl h)) | (refine guard_ndf (fun h => ?_) (fun h => ?_) <;> try (first | (exfalso; omega) | exact absurd rfl h)) | refine guard_nbt (fun h => ?_) (fun h => ?_) | refine guard_nbf (fun h => ?_) (fun h => ?_) | refine guard_bt (fun h => ?_) (fun h => ?_) | refine guard_bf (fun h => ?_) (fun h => ?_) | refine cond_t ?_ | refine cond_f ?_ | (refine cond_d (fun h => ?_) (fun h => ?_) <;> try (first | (exfalso; omega) | exact absurd rfl h)) | (refine cond_nd (fun h => ?_) (fun h => ?_) <;> try (first | (exfalso; omega) | exact absurd rfl h)) | refine cond_nb (fun h => ?_) (fun h => ?_) | refine cond_b (fun h => ?_) (fun h => ?_) | (refine side_i ?_ ?_; (first | omega | exact Eq.refl _ | exact ⟨Eq.refl _, by omega⟩ | (simp only [List.length_map]; omega))) | (refine side_i (imsB ?_) ?_; rfl) | (refine side_i (ims_map fun x => ?_) ?_; rfl) | (refine side_i ?_ ?_; (constructor <;> (simp only [elsA, cellsA, List.length_cons, List.length_nil, List.length_map]; omega))) | refine len_map ?_ | refine len_l ?_ | (refine each_knownm (by assumption) (by omega) ?_) | (refine each_known (by assumption) (by omega) ?_) | (refine each_mapNb ?_ (fun el hel hbB => ?_); omega) | (refine each_mapb ?_ ?_ (fun el hel hbB => ?_); omega; omega) | (refine each_lb ?_ ?_ (fun el hel hbB => ?_); omega; omega) | (refine each_mapN ?_ (fun el hel => ?_); omega) | (refine each_map ?_ ?_ (fun el hel => ?_); omega; omega) | (refine each_l ?_ ?_ (fun el hel => ?_); omega; omega) | (refine conv_bytes ?_ ?_; omega) | refine conv_u8 ?_ | refine conv_int ?_ | refine dq_go ?_ | (refine aany_go ?_ ?_ ?_; kernel_rfl; rfl) | (refine many_step ?_ ?_ ?_; kernel_rfl; kernel_rfl) | refine ex_i (fun ex => ?_) | refine allMP_c ?_ ?_ | exact allMP_n | (refine mpost_i ?_ ?_ ?_ ?_; rfl; rfl; rfl) | (refine free_i ?_ ?_; exact ⟨by kernel_rfl, by decide⟩) | refine allI_c ?_ ?_ | exact allI_n | refine conv_rune ?_ | (refine draw_p ?_ ?_ ?_; rfl; kernel_rfl)) <;> (try (conv => whnf)))
  refine loop_le (le_adopt (d := 11) (e := 3) (sz := 1) rfl) ?_
  refine loop_le (le_adopt (d := 12) (e := 3) (sz := 1) rfl) ?_
  refine loop_i (ι := Nat) (fun j => ⟨[(1, .i i), (2, .i o), (3, .i L), (4, .sl 1 (al.map wA)), (5, .ref 0 0), (11, .row 1 0 j), (12, .row 2 0 j), (16, .i al.length), (17, .i j)], 3, [(0, some (.box (sL s))), (1, some (.row 3 1 0 (((al.take j).map f).map wA))), (2, some (.row 3 1 0 (((al.take j).map g).map wA)))]⟩)
    (fun j => j ≤ al.length ∧ PAt f g al j 0) (fun j => al.length - j) 0 ⟨Nat.zero_le _, PAt.zero _ _ _⟩
    (le_of h0 rfl ⟨rfl, rfl, rfl, rfl, rfl, rfl, rfl, rfl, rfl, trivial⟩ ⟨rfl, ⟨0, rfl⟩, ⟨0, rfl⟩, trivial⟩ rfl rfl rfl) (fun j hI => ?_)
  obtain ⟨hj, hI⟩ := hI
  by_cases hjl : (j : Int) < al.length
  · obtain ⟨x, hx⟩ : ∃ x, al[j]? = some x := ⟨_, List.getElem?_eq_getElem (by omega)⟩
    have e1 := take_mapc (f := f) hx
    have e2 := take_mapc (f := g) hx
    repeat' ((first | (refine each_knownm (x := x) hx (by omega) ?_) | refine call_i (hcf _) ?_ | refine call_i (hcg _) ?_ | refine draw_m (id := 5) ⟨[(1, .i i), (2, .i o), (3, .i L), (4, .sl 1 (al.map wA)), (5, .ref 0 0), (11, .row 1 0 (j + 1)), (12, .row 2 0 (j + 1)), (13, .i j), (16, .i al.length), (17, .i j)], 3, [(0, some (.box (sL s))), (1, some (.row 3 1 0 (((al.take (j + 1)).map f).map wA))), (2, some (.row 3 1 0 (((al.take (j + 1)).map g).map wA)))]⟩ ?_ ?_  | refine aops_go ?_ | refine awp_go ?_ | refine var_i ?_ | refine fld_i ?_ | refine sl_i ?_ | refine arr_i ?_ | refine strt_i ?_ | refine boolt_i ?_ | refine zero_i ?_ | refine build_i ?_ | (refine row_i ?_ ?_; rfl) | refine map_i ?_ | refine guard_tt ?_ | refine guard_ff ?_ | refine guard_tf ?_ | refine guard_ft ?_ | (refine guard_dt (fun h => ?_) (fun h => ?_) <;> try (first | (exfalso; omega) | exact absurd rfl h)) | (refine guard_df (fun h => ?_) (fun h => ?_) <;> try (first | (exfalso; omega) | exact absurd rfl h)) | (refine guard_ndt (fun h => ?_) (fun h => ?_) <;> try (first | (exfalso; omega) | exact absurd rfl h)) | (refine guard_ndf (fun h => ?_) (fun h => ?_) <;> try (first | (exfalso; omega) | exact absurd rfl h)) | refine guard_nbt (fun h => ?_) (fun h => ?_) | refine guard_nbf (fun h => ?_) (fun h => ?_) | refine guard_bt (fun h => ?_) (fun h => ?_) | refine guard_bf (fun h => ?_) (fun h => ?_) | refine cond_t ?_ | refine cond_f ?_ | (refine cond_d (fun h => ?_) (fun h => ?_) <;> try (first | (exfalso; omega) | exact absurd rfl h)) | (refine cond_nd (fun h => ?_) (fun h => ?_) <;> try (first | (exfalso; omega) | exact absurd rfl h)) | refine cond_nb (fun h => ?_) (fun h => ?_) | refine cond_b (fun h => ?_) (fun h => ?_) | (refine side_i ?_ ?_; (first | omega | exact Eq.refl _ | exact ⟨Eq.refl _, by omega⟩ | (simp only [List.length_map]; omega))) | (refine side_i (imsB ?_) ?_; rfl) | (refine side_i (ims_map fun x => ?_) ?_; rfl) | (refine side_i ?_ ?_; (constructor <;> (simp only [elsA, cellsA, List.length_cons, List.length_nil, List.length_map]; omega))) | refine len_map ?_ | refine len_l ?_ | (refine each_knownm (by assumption) (by omega) ?_) | (refine each_known (by assumption) (by omega) ?_) | (refine each_mapNb ?_ (fun el hel hbB => ?_); omega) | (refine each_mapb ?_ ?_ (fun el hel hbB => ?_); omega; omega) | (refine each_lb ?_ ?_ (fun el hel hbB => ?_); omega; omega) | (refine each_mapN ?_ (fun el hel => ?_); omega) | (refine each_map ?_ ?_ (fun el hel => ?_); omega; omega) | (refine each_l ?_ ?_ (fun el hel => ?_); omega; omega) | (refine conv_bytes ?_ ?_; omega) | refine conv_u8 ?_ | refine conv_int ?_ | refine dq_go ?_ | (refine aany_go ?_ ?_ ?_; kernel_rfl; rfl) | (refine many_step ?_ ?_ ?_; kernel_rfl; kernel_rfl) | refine ex_i (fun ex => ?_) | refine allMP_c ?_ ?_ | exact allMP_n | (refine mpost_i ?_ ?_ ?_ ?_; rfl; rfl; rfl) | (refine free_i ?_ ?_; exact ⟨by kernel_rfl, by decide⟩) | refine allI_c ?_ ?_ | exact allI_n | refine conv_rune ?_ | (refine draw_p ?_ ?_ ?_; rfl; kernel_rfl)) <;> (try (conv => whnf)))
    all_goals first
      | exact le_of h0 rfl ⟨rfl, rfl, rfl, rfl, rfl, rfl, rfl, rfl, rfl, rfl, trivial⟩ ⟨rfl, ⟨_, congrArg (Blk.row 3 1 _) e1⟩, ⟨_, congrArg (Blk.row 3 1 _) e2⟩, trivial⟩ rfl rfl rfl
      | skip
    have hA := fun q x => take_get (f := f) (al := al) (n := j + 1) (q := q) (x := x)
    have hB := fun q x => take_get (f := g) (al := al) (n := j + 1) (q := q) (x := x)
    have lA : ((al.take (j + 1)).map f).length = j + 1 := by rw [List.length_map, List.length_take]; omega
    have lB : ((al.take (j + 1)).map g).length = j + 1 := by rw [List.length_map, List.length_take]; omega
    generalize hAe : (al.take (j + 1)).map f = A at *
    generalize hBe : (al.take (j + 1)).map g = B at *
    refine loop_i (ι := Nat) (fun k => ⟨[(1, .i i), (2, .i o), (3, .i L), (4, .sl 1 (al.map wA)), (5, .ref 0 0), (11, .row 1 0 (j + 1)), (12, .row 2 0 (j + 1)), (13, .i j), (14, .i k), (16, .i al.length), (17, .i j)], 3, [(0, some (.box (sL s))), (1, some (.row 3 1 0 (A.map wA))), (2, some (.row 3 1 0 (B.map wA)))]⟩)
      (fun k => k ≤ j ∧ PAt f g al j k) (fun k => j - k) 0 ⟨Nat.zero_le _, hI⟩
      (le_of h0 rfl ⟨rfl, rfl, rfl, rfl, rfl, rfl, rfl, rfl, rfl, rfl, rfl, trivial⟩ ⟨rfl, ⟨_, rfl⟩, ⟨_, rfl⟩, trivial⟩ rfl rfl rfl) (fun k hJ => ?_)
    obtain ⟨hk, hJ⟩ := hJ
    repeat' ((first | refine aops_go ?_ | refine awp_go ?_ | refine var_i ?_ | refine fld_i ?_ | refine sl_i ?_ | refine arr_i ?_ | refine strt_i ?_ | refine boolt_i ?_ | refine zero_i ?_ | refine build_i ?_ | (refine row_i ?_ ?_; rfl) | refine map_i ?_ | refine guard_tt ?_ | refine guard_ff ?_ | refine guard_tf ?_ | refine guard_ft ?_ | (refine guard_dt (fun h => ?_) (fun h => ?_) <;> try (first | (exfalso; omega) | exact absurd rfl h)) | (refine guard_df (fun h => ?_) (fun h => ?_) <;> try (first | (exfalso; omega) | exact absurd rfl h)) | (refine guard_ndt (fun h => ?_) (fun h => ?_) <;> try (first | (exfalso; omega) | exact absurd rfl h)) | (refine guard_ndf (fun h => ?_) (fun h => ?_) <;> try (first | (exfalso; omega) | exact absurd rfl h)) | refine guard_nbt (fun h => ?_) (fun h => ?_) | refine guard_nbf (fun h => ?_) (fun h => ?_) | refine guard_bt (fun h => ?_) (fun h => ?_) | refine guard_bf (fun h => ?_) (fun h => ?_) | refine cond_t ?_ | refine cond_f ?_ | (refine cond_d (fun h => ?_) (fun h => ?_) <;> try (first | (exfalso; omega) | exact absurd rfl h)) | (refine cond_nd (fun h => ?_) (fun h => ?_) <;> try (first | (exfalso; omega) | exact absurd rfl h)) | refine cond_nb (fun h => ?_) (fun h => ?_) | refine cond_b (fun h => ?_) (fun h => ?_) | (refine side_i ?_ ?_; (first | omega | exact Eq.refl _ | exact ⟨Eq.refl _, by omega⟩ | (simp only [List.length_map]; omega))) | (refine side_i (imsB ?_) ?_; rfl) | (refine side_i (ims_map fun x => ?_) ?_; rfl) | (refine side_i ?_ ?_; (constructor <;> (simp only [elsA, cellsA, List.length_cons, List.length_nil, List.length_map]; omega))) | refine len_map ?_ | refine len_l ?_ | (refine each_knownm (by assumption) (by omega) ?_) | (refine each_known (by assumption) (by omega) ?_) | (refine each_mapNb ?_ (fun el hel hbB => ?_); omega) | (refine each_mapb ?_ ?_ (fun el hel hbB => ?_); omega; omega) | (refine each_lb ?_ ?_ (fun el hel hbB => ?_); omega; omega) | (refine each_mapN ?_ (fun el hel => ?_); omega) | (refine each_map ?_ ?_ (fun el hel => ?_); omega; omega) | (refine each_l ?_ ?_ (fun el hel => ?_); omega; omega) | (refine conv_bytes ?_ ?_; omega) | refine conv_u8 ?_ | refine conv_int ?_ | refine dq_go ?_ | (refine aany_go ?_ ?_ ?_; kernel_rfl; rfl) | (refine many_step ?_ ?_ ?_; kernel_rfl; kernel_rfl) | refine ex_i (fun ex => ?_) | refine allMP_c ?_ ?_ | exact allMP_n | (refine mpost_i ?_ ?_ ?_ ?_; rfl; rfl; rfl) | (refine free_i ?_ ?_; exact ⟨by kernel_rfl, by decide⟩) | refine allI_c ?_ ?_ | exact allI_n | refine conv_rune ?_ | (refine draw_p ?_ ?_ ?_; rfl; kernel_rfl)) <;> (try (conv => whnf)))
    all_goals first
      | (obtain ⟨x1, y1, q1, q2, q3, q4, q5, q6⟩ := ab_two hA hB (j := j) (k := k) (by assumption) (by assumption) (by assumption) (by assumption)
         first
           | exact ret_tmp rfl (congrArg AV.b (PAt.hit q1 q2 (by assumption) (pair_bad (by rw [← q3, ← q4]; assumption) (by rw [← q5, ← q6]; assumption))).symm)
           | exact ⟨k + 1, ⟨by omega, hJ.step q1 q2 (pair_ok2 (by rw [← q5, ← q6]; assumption))⟩, by omega, le_of h0 rfl ⟨rfl, rfl, rfl, rfl, rfl, rfl, rfl, rfl, rfl, rfl, rfl, trivial⟩ ⟨rfl, ⟨_, rfl⟩, ⟨_, rfl⟩, trivial⟩ rfl rfl rfl⟩)
      | (obtain ⟨x1, y1, q1, q2, q3, q4⟩ := a_two hA (j := j) (k := k) (by assumption) (by assumption)
         exact ⟨k + 1, ⟨by omega, hJ.step q1 q2 (pair_ok1 (by rw [← q3, ← q4]; exact Decidable.of_not_not (by assumption)))⟩, by omega, le_of h0 rfl ⟨rfl, rfl, rfl, rfl, rfl, rfl, rfl, rfl, rfl, rfl, rfl, trivial⟩ ⟨rfl, ⟨_, rfl⟩, ⟨_, rfl⟩, trivial⟩ rfl rfl rfl⟩)
      | exact ⟨j + 1, ⟨by omega, hJ.next (by assumption)⟩, by omega, le_of h0 rfl ⟨rfl, rfl, rfl, rfl, rfl, rfl, rfl, rfl, rfl, trivial⟩ ⟨rfl, ⟨_, congrArg (fun z : List Int => Blk.row 3 1 0 (z.map wA)) hAe⟩, ⟨_, congrArg (fun z : List Int => Blk.row 3 1 0 (z.map wA)) hBe⟩, trivial⟩ rfl rfl rfl⟩
      | trace_state
  · repeat' ((first | refine aops_go ?_ | refine awp_go ?_ | refine var_i ?_ | refine fld_i ?_ | refine sl_i ?_ | refine arr_i ?_ | refine strt_i ?_ | refine boolt_i ?_ | refine zero_i ?_ | refine build_i ?_ | (refine row_i ?_ ?_; rfl) | refine map_i ?_ | refine guard_tt ?_ | refine guard_ff ?_ | refine guard_tf ?_ | refine guard_ft ?_ | (refine guard_dt (fun h => ?_) (fun h => ?_) <;> try (first | (exfalso; omega) | exact absurd rfl h)) | (refine guard_df (fun h => ?_) (fun h => ?_) <;> try (first | (exfalso; omega) | exact absurd rfl h)) | (refine guard_ndt (fun h => ?_) (fun h => ?_) <;> try (first | (exfalso; omega) | exact absurd rfl h)) | (refine guard_ndf (fun h => ?_) (fun h => ?_) <;> try (first | (exfalso; omega) | exact absurd rfl h)) | refine guard_nbt (fun h => ?_) (fun h => ?_) | refine guard_nbf (fun h => ?_) (fun h => ?_) | refine guard_bt (fun h => ?_) (fun h => ?_) | refine guard_bf (fun h => ?_) (fun h => ?_) | refine cond_t ?_ | refine cond_f ?_ | (refine cond_d (fun h => ?_) (fun h => ?_) <;> try (first | (exfalso; omega) | exact absurd rfl h)) | (refine cond_nd (fun h => ?_) (fun h => ?_) <;> try (first | (exfalso; omega) | exact absurd rfl h)) | refine cond_nb (fun h => ?_) (fun h => ?_) | refine cond_b (fun h => ?_) (fun h => ?_) | (refine side_i ?_ ?_; (first | omega | exact Eq.refl _ | exact ⟨Eq.refl _, by omega⟩ | (simp only [List.length_map]; omega))) | (refine side_i (imsB ?_) ?_; rfl) | (refine side_i (ims_map fun x => ?_) ?_; rfl) | (refine side_i ?_ ?_; (constructor <;> (simp only [elsA, cellsA, List.length_cons, List.length_nil, List.length_map]; omega))) | refine len_map ?_ | refine len_l ?_ | (refine each_knownm (by assumption) (by omega) ?_) | (refine each_known (by assumption) (by omega) ?_) | (refine each_mapNb ?_ (fun el hel hbB => ?_); omega) | (refine each_mapb ?_ ?_ (fun el hel hbB => ?_); omega; omega) | (refine each_lb ?_ ?_ (fun el hel hbB => ?_); omega; omega) | (refine each_mapN ?_ (fun el hel => ?_); omega) | (refine each_map ?_ ?_ (fun el hel => ?_); omega; omega) | (refine each_l ?_ ?_ (fun el hel => ?_); omega; omega) | (refine conv_bytes ?_ ?_; omega) | refine conv_u8 ?_ | refine conv_int ?_ | refine dq_go ?_ | (refine aany_go ?_ ?_ ?_; kernel_rfl; rfl) | (refine many_step ?_ ?_ ?_; kernel_rfl; kernel_rfl) | refine ex_i (fun ex => ?_) | refine allMP_c ?_ ?_ | exact allMP_n | (refine mpost_i ?_ ?_ ?_ ?_; rfl; rfl; rfl) | (refine free_i ?_ ?_; exact ⟨by kernel_rfl, by decide⟩) | refine allI_c ?_ ?_ | exact allI_n | refine conv_rune ?_ | (refine draw_p ?_ ?_ ?_; rfl; kernel_rfl)) <;> (try (conv => whnf)))
    all_goals first
      | exact ret_tmp rfl (congrArg AV.b (hI.done (by assumption)).symm)
      | trace_state

theorem allM_length {c : Col} {nm : List UInt8} (h : MeaOk c nm) : (allM c).length ≤ 60 := by
  have := h.high
  unfold allM
  rw [List.length_append, List.length_map, List.length_range]
  split <;> simp <;> omega
theorem range_snoc (low : Int) (j : Nat) : ((List.range (j + 1)).map fun i : Nat => low + (i : Int)) = ((List.range j).map fun i : Nat => low + (i : Int)) ++ [low + j] := by
  rw [List.range_succ, List.map_append]; rfl
set_option maxHeartbeats 8000000 in
theorem schemaLeast_call (l : List UInt8) (level : Int) (hl : l.length ≤ maxLen) : FCall Tryd.prog 10 [.sl 1 (l.map u8A), .i level] (.b true) := by
  unfold maxLen at hl
  have hL : (l.take 400).length ≤ 400 := List.length_take_le _ _
  have hnew := new_call l (by omega)
  have hsch := sch_call (l.take 400) 0 hL
  have hd := schS_drawn (l.take 400) 0
  generalize schS (l.take 400) 0 = s0 at *
  obtain ⟨s, a0⟩ := s0
  dsimp only at hsch hd
  have hlen := hd.lens
  generalize l.take 400 = t at *
  refine fcall_intro (n := 92) Tryd.func10 (by kernel_rfl) rfl rfl rfl rfl rfl (by intro t T h; cases h) (fun hrd E h0 => ?_)
  clear hrd
  repeat' ((first | refine ncall_g [] [] hnew rfl rfl rfl rfl rfl trivial rfl rfl rfl rfl rfl ?_ | refine ⟨ncall_h [0] [0] hsch rfl rfl rfl rfl rfl ⟨rfl, trivial⟩ rfl rfl rfl rfl rfl ?_⟩  | refine aops_go ?_ | refine awp_go ?_ | refine var_i ?_ | refine fld_i ?_ | refine sl_i ?_ | refine arr_i ?_ | refine strt_i ?_ | refine boolt_i ?_ | refine zero_i ?_ | refine build_i ?_ | (refine row_i ?_ ?_; rfl) | refine map_i ?_ | refine guard_tt ?_ | refine guard_ff ?_ | refine guard_tf ?_ | refine guard_ft ?_ | (refine guard_dt (fun h => ?_) (fun h => ?_) <;> try (first | (exfalso; omega) | exact absurd rfl h)) | (refine guard_df (fun h => ?_) (fun h => ?_) <;> try (first | (exfalso; omega) | exact absurd rfl h)) | (refine guard_ndt (fun h => ?_) (fun h => ?_) <;> try (first | (exfalso; omega) | exact absurd rfl h)) | (refine guard_ndf (fun h => ?_) (fun h => ?_) <;> try (first | (exfalso; omega) | exact absurd rfl h)) | refine guard_nbt (fun h => ?_) (fun h => ?_) | refine guard_nbf (fun h => ?_) (fun h => ?_) | refine guard_bt (fun h => ?_) (fun h => ?_) | refine guard_bf (fun h => ?_) (fun h => ?_) | refine cond_t ?_ | refine cond_f ?_ | (refine cond_d (fun h => ?_) (fun h => ?_) <;> try (first | (exfalso; omega) | exact absurd rfl h)) | (refine cond_nd (fun h => ?_) (fun h => ?_) <;> try (first | (exfalso; omega) | exact absurd rfl h)) | refine cond_nb (fun h => ?_) (fun h => ?_) | refine cond_b (fun h => ?_) (fun h => ?_) | (refine side_i ?_ ?_; (first | omega | exact Eq.refl _ | exact ⟨Eq.refl _, by omega⟩ | (simp only [List.length_map]; omega))) | (refine side_i (imsB ?_) ?_; rfl) | (refine side_i (ims_map fun x => ?_) ?_; rfl) | (refine side_i ?_ ?_; (constructor <;> (simp only [elsA, cellsA, List.length_cons, List.length_nil, List.length_map]; omega))) | refine len_map ?_ | refine len_l ?_ | (refine each_knownm (by assumption) (by omega) ?_) | (refine each_known (by assumption) (by omega) ?_) | (refine each_mapNb ?_ (fun el hel hbB => ?_); omega) | (refine each_mapb ?_ ?_ (fun el hel hbB => ?_); omega; omega) | (refine each_lb ?_ ?_ (fun el hel hbB => ?_); omega; omega) | (refine each_mapN ?_ (fun el hel => ?_); omega) | (refine each_map ?_ ?_ (fun el hel => ?_); omega; omega) | (refine each_l ?_ ?_ (fun el hel => ?_); omega; omega) | (refine conv_bytes ?_ ?_; omega) | refine conv_u8 ?_ | refine conv_int ?_ | refine dq_go ?_ | (refine aany_go ?_ ?_ ?_; kernel_rfl; rfl) | (refine many_step ?_ ?_ ?_; kernel_rfl; kernel_rfl) | refine ex_i (fun ex => ?_) | refine allMP_c ?_ ?_ | exact allMP_n | (refine mpost_i ?_ ?_ ?_ ?_; rfl; rfl; rfl) | (refine free_i ?_ ?_; exact ⟨by kernel_rfl, by decide⟩) | refine allI_c ?_ ?_ | exact allI_n | refine conv_rune ?_ | (refine draw_p ?_ ?_ ?_; rfl; kernel_rfl)) <;> (try (conv => whnf)))
  refine loop_i (ι := Nat) (fun k => ⟨[(1, .i level), (6, .ref 3 0), (7, .i k)], 4, [(3, some (.box (sL s)))]⟩) (fun k => 1 ≤ k ∧ k ≤ s.cols.length) (fun k => s.cols.length - k) 1 ⟨by omega, by omega⟩
    (le_of h0 rfl ⟨rfl, rfl, rfl, trivial⟩ ⟨rfl, trivial⟩ rfl rfl rfl) (fun k hI => ?_)
  by_cases hk : (k : Int) < s.cols.length
  · obtain ⟨c, hc⟩ : ∃ c, s.cols[k]? = some c := ⟨_, List.getElem?_eq_getElem (by omega)⟩
    obtain ⟨n, hB⟩ := hd.blk (i := k) (by omega) hc
    have hca : colAt s k = c := colAt_get (by simpa using hc)
    have hfs : finestS s k = n := by
      have hf := hB.fin
      unfold finestS finS
      rw [if_pos hd.ok, if_neg (by omega), hca, hf]
    have hn4 := hB.le
    have hfn : FCall Tryd.prog 44 [sA s, .i k] (.i n) := (finestS_call s k).congr (congrArg AV.i hfs)
    have hmo := mod_call level (n + 1) (by omega)
    have hml := mod_lt (k := level) (n := n + 1) (by omega)
    obtain ⟨m, hm⟩ := Int.eq_ofNat_of_zero_le hml.1
    rw [hm] at hmo hml
    have hmn : m ≤ n := by omega
    obtain ⟨k1, k2, k3⟩ := leastK_spec hB m hmn
    have hle : FCall Tryd.prog 36 [sA s, .i k, .i m] (.i (leastK s c m)) := (least_call s k m).congr (congrArg AV.i (by unfold leastS; rw [hfs, if_neg (by omega), hca]; rfl))
    have hal : (allC s c).length ≤ 60 := by
      unfold allC
      split
      · rename_i hk2
        have := hd.lvs hc hk2
        rw [← this.2.1, List.length_map]
        omega
      · rename_i hk2
        rcases hd.col hc with ⟨h, _⟩ | ⟨_, rfl | rfl⟩ | ⟨_, nm, h⟩
        · omega
        · exact absurd rfl hk2
        · exact absurd rfl hk2
        · exact allM_length h
    have hd1 : FCall Tryd.prog 46 [sA s, .i k, .i (leastK s c m), .i m, .sl 1 ((allC s c).map wA)] (.b true) := (ldivides_call s k (leastK s c m) m (allC s c) (by omega)).congr (congrArg AV.b (by rw [hd.divB (by omega) hc hB k1 hmn, decide_eq_true k2]))
    have hd2 : (0 : Int) < (leastK s c m : Nat) → FCall Tryd.prog 46 [sA s, .i k, .i ((leastK s c m : Nat) - 1), .i m, .sl 1 ((allC s c).map wA)] (.b false) := by
      intro h9
      have e : ((leastK s c m : Nat) : Int) - 1 = ((leastK s c m - 1 : Nat) : Int) := by omega
      rw [e]
      exact (ldivides_call s k (leastK s c m - 1 : Nat) m (allC s c) (by omega)).congr (congrArg AV.b (by rw [hd.divB (by omega) hc hB (by omega) hmn, decide_eq_false (k3 _ (by omega))]))
    clear k2 k3
    generalize leastK s c m = q at *
    by_cases hk2 : c.kind = 2
    · have hlv : FCall Tryd.prog 45 [sA s, .i k] (.sl 1 ((allC s c).map wA)) := by
        refine (leaves_call s k (by omega) (by simpa using hc) (hd.lvs hc hk2).1).congr (congrArg (AV.sl 1) ?_)
        unfold allC
        rw [if_pos hk2, ← (hd.lvs hc hk2).2.1, List.map_map]
        rfl
      repeat' ((first | (refine each_knownm (x := c) hc (by omega) ?_) | refine call_i hlv ?_ | refine call_i hfn ?_ | refine call_i hmo ?_ | refine call_i hle ?_ | refine call_i hd1 ?_ | refine call_i (hd2 (by assumption)) ?_  | refine aops_go ?_ | refine awp_go ?_ | refine var_i ?_ | refine fld_i ?_ | refine sl_i ?_ | refine arr_i ?_ | refine strt_i ?_ | refine boolt_i ?_ | refine zero_i ?_ | refine build_i ?_ | (refine row_i ?_ ?_; rfl) | refine map_i ?_ | refine guard_tt ?_ | refine guard_ff ?_ | refine guard_tf ?_ | refine guard_ft ?_ | (refine guard_dt (fun h => ?_) (fun h => ?_) <;> try (first | (exfalso; omega) | exact absurd rfl h)) | (refine guard_df (fun h => ?_) (fun h => ?_) <;> try (first | (exfalso; omega) | exact absurd rfl h)) | (refine guard_ndt (fun h => ?_) (fun h => ?_) <;> try (first | (exfalso; omega) | exact absurd rfl h)) | (refine guard_ndf (fun h => ?_) (fun h => ?_) <;> try (first | (exfalso; omega) | exact absurd rfl h)) | refine guard_nbt (fun h => ?_) (fun h => ?_) | refine guard_nbf (fun h => ?_) (fun h => ?_) | refine guard_bt (fun h => ?_) (fun h => ?_) | refine guard_bf (fun h => ?_) (fun h => ?_) | refine cond_t ?_ | refine cond_f ?_ | (refine cond_d (fun h => ?_) (fun h => ?_) <;> try (first | (exfalso; omega) | exact absurd rfl h)) | (refine cond_nd (fun h => ?_) (fun h => ?_) <;> try (first | (exfalso; omega) | exact absurd rfl h)) | refine cond_nb (fun h => ?_) (fun h => ?_) | refine cond_b (fun h => ?_) (fun h => ?_) | (refine side_i ?_ ?_; (first | omega | exact Eq.refl _ | exact ⟨Eq.refl _, by omega⟩ | (simp only [List.length_map]; omega))) | (refine side_i (imsB ?_) ?_; rfl) | (refine side_i (ims_map fun x => ?_) ?_; rfl) | (refine side_i ?_ ?_; (constructor <;> (simp only [elsA, cellsA, List.length_cons, List.length_nil, List.length_map]; omega))) | refine len_map ?_ | refine len_l ?_ | (refine each_knownm (by assumption) (by omega) ?_) | (refine each_known (by assumption) (by omega) ?_) | (refine each_mapNb ?_ (fun el hel hbB => ?_); omega) | (refine each_mapb ?_ ?_ (fun el hel hbB => ?_); omega; omega) | (refine each_lb ?_ ?_ (fun el hel hbB => ?_); omega; omega) | (refine each_mapN ?_ (fun el hel => ?_); omega) | (refine each_map ?_ ?_ (fun el hel => ?_); omega; omega) | (refine each_l ?_ ?_ (fun el hel => ?_); omega; omega) | (refine conv_bytes ?_ ?_; omega) | refine conv_u8 ?_ | refine conv_int ?_ | refine dq_go ?_ | (refine aany_go ?_ ?_ ?_; kernel_rfl; rfl) | (refine many_step ?_ ?_ ?_; kernel_rfl; kernel_rfl) | refine ex_i (fun ex => ?_) | refine allMP_c ?_ ?_ | exact allMP_n | (refine mpost_i ?_ ?_ ?_ ?_; rfl; rfl; rfl) | (refine free_i ?_ ?_; exact ⟨by kernel_rfl, by decide⟩) | refine allI_c ?_ ?_ | exact allI_n | refine conv_rune ?_ | (refine draw_p ?_ ?_ ?_; rfl; kernel_rfl)) <;> (try (conv => whnf)))
      all_goals first
        | exact ⟨k + 1, ⟨by omega, by omega⟩, by omega, le_of h0 rfl ⟨rfl, rfl, rfl, trivial⟩ ⟨rfl, trivial⟩ rfl rfl rfl⟩
        | trace_state
    · obtain ⟨nm, hm3⟩ : ∃ nm, MeaOk c nm := by
        rcases hd.col hc with ⟨h, _⟩ | ⟨_, rfl | rfl⟩ | ⟨_, h⟩
        · omega
        · exact absurd rfl hk2
        · exact absurd rfl hk2
        · exact h
      have hlow := hm3.low
      have hhigh := hm3.high
      have eC : allC s c = allM c := by unfold allC; rw [if_neg hk2]
      rw [eC] at hd1 hd2
      clear eC hal
      repeat' ((first | (refine each_knownm (x := c) hc (by omega) ?_)  | refine aops_go ?_ | refine awp_go ?_ | refine var_i ?_ | refine fld_i ?_ | refine sl_i ?_ | refine arr_i ?_ | refine strt_i ?_ | refine boolt_i ?_ | refine zero_i ?_ | refine build_i ?_ | (refine row_i ?_ ?_; rfl) | refine map_i ?_ | refine guard_tt ?_ | refine guard_ff ?_ | refine guard_tf ?_ | refine guard_ft ?_ | (refine guard_dt (fun h => ?_) (fun h => ?_) <;> try (first | (exfalso; omega) | exact absurd rfl h)) | (refine guard_df (fun h => ?_) (fun h => ?_) <;> try (first | (exfalso; omega) | exact absurd rfl h)) | (refine guard_ndt (fun h => ?_) (fun h => ?_) <;> try (first | (exfalso; omega) | exact absurd rfl h)) | (refine guard_ndf (fun h => ?_) (fun h => ?_) <;> try (first | (exfalso; omega) | exact absurd rfl h)) | refine guard_nbt (fun h => ?_) (fun h => ?_) | refine guard_nbf (fun h => ?_) (fun h => ?_) | refine guard_bt (fun h => ?_) (fun h => ?_) | refine guard_bf (fun h => ?_) (fun h => ?_) | refine cond_t ?_ | refine cond_f ?_ | (refine cond_d (fun h => ?_) (fun h => ?_) <;> try (first | (exfalso; omega) | exact absurd rfl h)) | (refine cond_nd (fun h => ?_) (fun h => ?_) <;> try (first | (exfalso; omega) | exact absurd rfl h)) | refine cond_nb (fun h => ?_) (fun h => ?_) | refine cond_b (fun h => ?_) (fun h => ?_) | (refine side_i ?_ ?_; (first | omega | exact Eq.refl _ | exact ⟨Eq.refl _, by omega⟩ | (simp only [List.length_map]; omega))) | (refine side_i (imsB ?_) ?_; rfl) | (refine side_i (ims_map fun x => ?_) ?_; rfl) | (refine side_i ?_ ?_; (constructor <;> (simp only [elsA, cellsA, List.length_cons, List.length_nil, List.length_map]; omega))) | refine len_map ?_ | refine len_l ?_ | (refine each_knownm (by assumption) (by omega) ?_) | (refine each_known (by assumption) (by omega) ?_) | (refine each_mapNb ?_ (fun el hel hbB => ?_); omega) | (refine each_mapb ?_ ?_ (fun el hel hbB => ?_); omega; omega) | (refine each_lb ?_ ?_ (fun el hel hbB => ?_); omega; omega) | (refine each_mapN ?_ (fun el hel => ?_); omega) | (refine each_map ?_ ?_ (fun el hel => ?_); omega; omega) | (refine each_l ?_ ?_ (fun el hel => ?_); omega; omega) | (refine conv_bytes ?_ ?_; omega) | refine conv_u8 ?_ | refine conv_int ?_ | refine dq_go ?_ | (refine aany_go ?_ ?_ ?_; kernel_rfl; rfl) | (refine many_step ?_ ?_ ?_; kernel_rfl; kernel_rfl) | refine ex_i (fun ex => ?_) | refine allMP_c ?_ ?_ | exact allMP_n | (refine mpost_i ?_ ?_ ?_ ?_; rfl; rfl; rfl) | (refine free_i ?_ ?_; exact ⟨by kernel_rfl, by decide⟩) | refine allI_c ?_ ?_ | exact allI_n | refine conv_rune ?_ | (refine draw_p ?_ ?_ ?_; rfl; kernel_rfl)) <;> (try (conv => whnf)))
      refine loop_le (le_adopt (d := 9) (e := 3) (sz := 1) rfl) ?_
      refine loop_i (ι := Nat) (fun j => ⟨[(1, .i level), (6, .ref 3 0), (7, .i k), (8, .ref 4 0), (9, .row 5 0 j), (10, .i (c.low + j))], 6, [(3, some (.box (sL s))), (4, some (.box (colL c))), (5, some (.row 3 1 0 (((List.range j).map fun i : Nat => c.low + (i : Int)).map wA)))]⟩) (fun j => j ≤ (c.high - c.low + 1).toNat) (fun j => (c.high - c.low + 1).toNat - j) 0 (Nat.zero_le _)
        (le_of h0 rfl ⟨rfl, rfl, rfl, rfl, rfl, congrArg (fun z : Int => some (AV.i z)) (show c.low = c.low + ((0 : Nat) : Int) by omega), trivial⟩ ⟨rfl, rfl, ⟨0, rfl⟩, trivial⟩ rfl rfl rfl) (fun j hj => ?_)
      have et : c.opt = true → ¬ (c.low + (j : Int) ≤ c.high) → (allM c).map wA = ((List.range j).map fun i : Nat => c.low + (i : Int)).map wA ++ [wA ((-1099511627776))] := by
        intro h1 h2
        unfold allM
        rw [if_pos h1, show (c.high - c.low + 1).toNat = j by omega, List.map_append]
        rfl
      have ef : c.opt = false → ¬ (c.low + (j : Int) ≤ c.high) → (allM c).map wA = ((List.range j).map fun i : Nat => c.low + (i : Int)).map wA := by
        intro h1 h2
        unfold allM
        rw [if_neg (by rw [h1]; exact Bool.false_ne_true), show (c.high - c.low + 1).toNat = j by omega, List.append_nil]
      have d1t := fun h1 h2 => (et h1 h2) ▸ hd1
      have d1f := fun h1 h2 => (ef h1 h2) ▸ hd1
      have d2t := fun h1 h2 h3 => (et h1 h2) ▸ hd2 h3
      have d2f := fun h1 h2 h3 => (ef h1 h2) ▸ hd2 h3
      have esn := congrArg (List.map wA) (range_snoc c.low j)
      rw [List.map_append] at esn
      clear et ef hd1 hd2
      repeat' ((first | refine ncall_frz 5 ?_ | refine call_i hfn ?_ | refine call_i hmo ?_ | refine call_i hle ?_ | refine call_i (d1t (by assumption) (by assumption)) ?_ | refine call_i (d1f (by assumption) (by assumption)) ?_ | refine call_i (d2t (by assumption) (by assumption) (by assumption)) ?_ | refine call_i (d2f (by assumption) (by assumption) (by assumption)) ?_  | refine aops_go ?_ | refine awp_go ?_ | refine var_i ?_ | refine fld_i ?_ | refine sl_i ?_ | refine arr_i ?_ | refine strt_i ?_ | refine boolt_i ?_ | refine zero_i ?_ | refine build_i ?_ | (refine row_i ?_ ?_; rfl) | refine map_i ?_ | refine guard_tt ?_ | refine guard_ff ?_ | refine guard_tf ?_ | refine guard_ft ?_ | (refine guard_dt (fun h => ?_) (fun h => ?_) <;> try (first | (exfalso; omega) | exact absurd rfl h)) | (refine guard_df (fun h => ?_) (fun h => ?_) <;> try (first | (exfalso; omega) | exact absurd rfl h)) | (refine guard_ndt (fun h => ?_) (fun h => ?_) <;> try (first | (exfalso; omega) | exact absurd rfl h)) | (refine guard_ndf (fun h => ?_) (fun h => ?_) <;> try (first | (exfalso; omega) | exact absurd rfl h)) | refine guard_nbt (fun h => ?_) (fun h => ?_) | refine guard_nbf (fun h => ?_) (fun h => ?_) | refine guard_bt (fun h => ?_) (fun h => ?_) | refine guard_bf (fun h => ?_) (fun h => ?_) | refine cond_t ?_ | refine cond_f ?_ | (refine cond_d (fun h => ?_) (fun h => ?_) <;> try (first | (exfalso; omega) | exact absurd rfl h)) | (refine cond_nd (fun h => ?_) (fun h => ?_) <;> try (first | (exfalso; omega) | exact absurd rfl h)) | refine cond_nb (fun h => ?_) (fun h => ?_) | refine cond_b (fun h => ?_) (fun h => ?_) | (refine side_i ?_ ?_; (first | omega | exact Eq.refl _ | exact ⟨Eq.refl _, by omega⟩ | (simp only [List.length_map]; omega))) | (refine side_i (imsB ?_) ?_; rfl) | (refine side_i (ims_map fun x => ?_) ?_; rfl) | (refine side_i ?_ ?_; (constructor <;> (simp only [elsA, cellsA, List.length_cons, List.length_nil, List.length_map]; omega))) | refine len_map ?_ | refine len_l ?_ | (refine each_knownm (by assumption) (by omega) ?_) | (refine each_known (by assumption) (by omega) ?_) | (refine each_mapNb ?_ (fun el hel hbB => ?_); omega) | (refine each_mapb ?_ ?_ (fun el hel hbB => ?_); omega; omega) | (refine each_lb ?_ ?_ (fun el hel hbB => ?_); omega; omega) | (refine each_mapN ?_ (fun el hel => ?_); omega) | (refine each_map ?_ ?_ (fun el hel => ?_); omega; omega) | (refine each_l ?_ ?_ (fun el hel => ?_); omega; omega) | (refine conv_bytes ?_ ?_; omega) | refine conv_u8 ?_ | refine conv_int ?_ | refine dq_go ?_ | (refine aany_go ?_ ?_ ?_; kernel_rfl; rfl) | (refine many_step ?_ ?_ ?_; kernel_rfl; kernel_rfl) | refine ex_i (fun ex => ?_) | refine allMP_c ?_ ?_ | exact allMP_n | (refine mpost_i ?_ ?_ ?_ ?_; rfl; rfl; rfl) | (refine free_i ?_ ?_; exact ⟨by kernel_rfl, by decide⟩) | refine allI_c ?_ ?_ | exact allI_n | refine conv_rune ?_ | (refine draw_p ?_ ?_ ?_; rfl; kernel_rfl)) <;> (try (conv => whnf)))
      all_goals first
        | exact ⟨k + 1, ⟨by omega, by omega⟩, by omega, le_of h0 rfl ⟨rfl, rfl, rfl, trivial⟩ ⟨rfl, trivial⟩ rfl rfl rfl⟩
        | exact ⟨j + 1, by omega, by omega, le_of h0 rfl ⟨rfl, rfl, rfl, rfl, rfl, congrArg (fun z : Int => some (AV.i z)) (by omega), trivial⟩ ⟨rfl, rfl, ⟨_, congrArg (Blk.row 3 1 _) esn⟩, trivial⟩ rfl rfl rfl⟩
        | trace_state
  · repeat' ((first | refine call_i awake2_call ?_  | refine aops_go ?_ | refine awp_go ?_ | refine var_i ?_ | refine fld_i ?_ | refine sl_i ?_ | refine arr_i ?_ | refine strt_i ?_ | refine boolt_i ?_ | refine zero_i ?_ | refine build_i ?_ | (refine row_i ?_ ?_; rfl) | refine map_i ?_ | refine guard_tt ?_ | refine guard_ff ?_ | refine guard_tf ?_ | refine guard_ft ?_ | (refine guard_dt (fun h => ?_) (fun h => ?_) <;> try (first | (exfalso; omega) | exact absurd rfl h)) | (refine guard_df (fun h => ?_) (fun h => ?_) <;> try (first | (exfalso; omega) | exact absurd rfl h)) | (refine guard_ndt (fun h => ?_) (fun h => ?_) <;> try (first | (exfalso; omega) | exact absurd rfl h)) | (refine guard_ndf (fun h => ?_) (fun h => ?_) <;> try (first | (exfalso; omega) | exact absurd rfl h)) | refine guard_nbt (fun h => ?_) (fun h => ?_) | refine guard_nbf (fun h => ?_) (fun h => ?_) | refine guard_bt (fun h => ?_) (fun h => ?_) | refine guard_bf (fun h => ?_) (fun h => ?_) | refine cond_t ?_ | refine cond_f ?_ | (refine cond_d (fun h => ?_) (fun h => ?_) <;> try (first | (exfalso; omega) | exact absurd rfl h)) | (refine cond_nd (fun h => ?_) (fun h => ?_) <;> try (first | (exfalso; omega) | exact absurd rfl h)) | refine cond_nb (fun h => ?_) (fun h => ?_) | refine cond_b (fun h => ?_) (fun h => ?_) | (refine side_i ?_ ?_; (first | omega | exact Eq.refl _ | exact ⟨Eq.refl _, by omega⟩ | (simp only [List.length_map]; omega))) | (refine side_i (imsB ?_) ?_; rfl) | (refine side_i (ims_map fun x => ?_) ?_; rfl) | (refine side_i ?_ ?_; (constructor <;> (simp only [elsA, cellsA, List.length_cons, List.length_nil, List.length_map]; omega))) | refine len_map ?_ | refine len_l ?_ | (refine each_knownm (by assumption) (by omega) ?_) | (refine each_known (by assumption) (by omega) ?_) | (refine each_mapNb ?_ (fun el hel hbB => ?_); omega) | (refine each_mapb ?_ ?_ (fun el hel hbB => ?_); omega; omega) | (refine each_lb ?_ ?_ (fun el hel hbB => ?_); omega; omega) | (refine each_mapN ?_ (fun el hel => ?_); omega) | (refine each_map ?_ ?_ (fun el hel => ?_); omega; omega) | (refine each_l ?_ ?_ (fun el hel => ?_); omega; omega) | (refine conv_bytes ?_ ?_; omega) | refine conv_u8 ?_ | refine conv_int ?_ | refine dq_go ?_ | (refine aany_go ?_ ?_ ?_; kernel_rfl; rfl) | (refine many_step ?_ ?_ ?_; kernel_rfl; kernel_rfl) | refine ex_i (fun ex => ?_) | refine allMP_c ?_ ?_ | exact allMP_n | (refine mpost_i ?_ ?_ ?_ ?_; rfl; rfl; rfl) | (refine free_i ?_ ?_; exact ⟨by kernel_rfl, by decide⟩) | refine allI_c ?_ ?_ | exact allI_n | refine conv_rune ?_ | (refine draw_p ?_ ?_ ?_; rfl; kernel_rfl)) <;> (try (conv => whnf)))
    all_goals exact ret_tmp rfl rfl
theorem schemaLeast_all (l : List AV) (h : AShapes Tryd.prog Tryd.f10.params.toList l) : FCall Tryd.prog 10 l (.b true) := by
  obtain ⟨a1, r, rfl, h1, a2, r, rfl, h2, rfl⟩ := h
  obtain ⟨l, hl, rfl⟩ := ash_by h1
  obtain ⟨x2, _, rfl⟩ := ash_i h2
  exact schemaLeast_call l x2 hl
end Go.Proofs.YtmiaihoallkjfaaDoor
