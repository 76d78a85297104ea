/- ConditionLogic: the laws of three-valued logic. -/
import Derived.Test.YtghlhejdfgkjaaaGreatDoorDr9
import Derived.Test.YtghlhejdfgkjaaaGreatDoorAw5
import Derived.Test.YtghlhejdfgkjaaaGreatDoorB4
import Derived.Test.YtghlhejdfgkjaaaGreatDoorB12
import Derived.Test.YtghlhejdfgkjaaaGreatDoorB14
import Derived.Test.YtghlhejdfgkjaaaGreatDoorGf1
namespace Go.Proofs.YtghlhejdfgkjaaaGreatDoor
open Go Go.Av
attribute [local irreducible] AWp AOps AAny MAny DQ retQ retG St.le FCall GCall
set_option linter.unusedVariables false
set_option linter.unnecessarySimpa false
set_option linter.unusedSimpArgs false
set_option maxRecDepth 100000

theorem one_eq (o : Int) (x : Cnd) : AV.agg [.i o, .i 0, .i 0, .i 0, .i 0, .sl 6 [cndX x]] = cndA (.mk o 0 0 0 0 [x]) := by
  rw [← cndX_eq]; rfl
theorem two_eq (o : Int) (x y : Cnd) : AV.agg [.i o, .i 0, .i 0, .i 0, .i 0, .sl 6 [cndX x, cndX y]] = cndA (.mk o 0 0 0 0 [x, y]) := by
  rw [← cndX_eq, ← cndX_eq]; rfl
set_option maxHeartbeats 4000000 in
theorem opp_call (x : Cnd) : FCall Tryz.prog 41 [cndA x] (cndA (.mk 7 0 0 0 0 [x])) := by
  refine fcall_intro (n := 6) Tryz.func41 (by kernel_rfl) rfl rfl rfl rfl rfl (by intro t T h; cases h; exact ⟨6, inferInstance, fun l h => by cases h; rfl⟩) (fun hrd E h0 => ?_)
  clear hrd
  repeat' ((first | refine aops_go ?_ | refine awp_go ?_ | refine guard_tt ?_ | refine guard_ff ?_ | refine guard_tf ?_ | refine guard_ft ?_ | refine cond_t ?_ | refine cond_f ?_ | (refine each_knownm (by assumption) (by omega) ?_) | (refine each_known (by assumption) (by omega) ?_) | refine stp ?_ | (refine And.intro (fun h => ?_) (fun h => ?_) <;> try (first | (exfalso; omega) | exact absurd rfl h)) | (refine side_i ?_ ?_; (first | omega | exact Eq.refl _ | exact ⟨Eq.refl _, by omega⟩ | (simp only [List.length_map]; omega) | exact imsB rfl | exact ims_map fun _ => rfl | (constructor <;> (simp only [elsA, cellsA, List.length_cons, List.length_nil, List.length_map]; omega)))) | (refine each_mapNb ?_ (fun el hel hbB => ?_); omega) | (refine each_mapb ?_ ?_ (fun el hel hbB => ?_); omega; omega) | (refine each_lb ?_ ?_ (fun el hel hbB => ?_); omega; omega) | (refine each_mapN ?_ (fun el hel => ?_); omega) | (refine each_map ?_ ?_ (fun el hel => ?_); omega; omega) | (refine each_l ?_ ?_ (fun el hel => ?_); omega; omega) | (refine conv_bytes ?_ ?_; omega) | (refine aany_go ?_ ?_ ?_; kernel_rfl; rfl) | (refine many_step ?_ ?_ ?_; kernel_rfl; kernel_rfl) | refine ex_i (fun ex => ?_) | refine allMP_c ?_ ?_ | exact allMP_n | (refine mpost_i ?_ ?_ ?_ ?_; rfl; rfl; rfl) | (refine free_i ?_ ?_; exact ⟨by kernel_rfl, by decide⟩) | refine allI_c ?_ ?_ | exact allI_n | (refine draw_p ?_ ?_ ?_; rfl; kernel_rfl)) <;> (try (conv => whnf)))
  all_goals exact ret_cell rfl rfl (one_eq 7 x)
set_option maxHeartbeats 4000000 in
theorem lpair_call (o : Int) (x y : Cnd) : FCall Tryz.prog 42 [.i o, cndA x, cndA y] (cndA (.mk o 0 0 0 0 [x, y])) := by
  refine fcall_intro (n := 12) Tryz.func42 (by kernel_rfl) rfl rfl rfl rfl rfl (by intro t T h; cases h; exact ⟨6, inferInstance, fun l h => by cases h; rfl⟩) (fun hrd E h0 => ?_)
  clear hrd
  repeat' ((first | refine aops_go ?_ | refine awp_go ?_ | refine guard_tt ?_ | refine guard_ff ?_ | refine guard_tf ?_ | refine guard_ft ?_ | refine cond_t ?_ | refine cond_f ?_ | (refine each_knownm (by assumption) (by omega) ?_) | (refine each_known (by assumption) (by omega) ?_) | refine stp ?_ | (refine And.intro (fun h => ?_) (fun h => ?_) <;> try (first | (exfalso; omega) | exact absurd rfl h)) | (refine side_i ?_ ?_; (first | omega | exact Eq.refl _ | exact ⟨Eq.refl _, by omega⟩ | (simp only [List.length_map]; omega) | exact imsB rfl | exact ims_map fun _ => rfl | (constructor <;> (simp only [elsA, cellsA, List.length_cons, List.length_nil, List.length_map]; omega)))) | (refine each_mapNb ?_ (fun el hel hbB => ?_); omega) | (refine each_mapb ?_ ?_ (fun el hel hbB => ?_); omega; omega) | (refine each_lb ?_ ?_ (fun el hel hbB => ?_); omega; omega) | (refine each_mapN ?_ (fun el hel => ?_); omega) | (refine each_map ?_ ?_ (fun el hel => ?_); omega; omega) | (refine each_l ?_ ?_ (fun el hel => ?_); omega; omega) | (refine conv_bytes ?_ ?_; omega) | (refine aany_go ?_ ?_ ?_; kernel_rfl; rfl) | (refine many_step ?_ ?_ ?_; kernel_rfl; kernel_rfl) | refine ex_i (fun ex => ?_) | refine allMP_c ?_ ?_ | exact allMP_n | (refine mpost_i ?_ ?_ ?_ ?_; rfl; rfl; rfl) | (refine free_i ?_ ?_; exact ⟨by kernel_rfl, by decide⟩) | refine allI_c ?_ ?_ | exact allI_n | (refine draw_p ?_ ?_ ?_; rfl; kernel_rfl)) <;> (try (conv => whnf)))
  all_goals exact ret_cell rfl rfl (two_eq o x y)
theorem eva_eq {s : Sch} {c : Cnd} {row : List Int} (h1 : cndE s c = 0) (h2 : rowE s row = 0) : evaS s c row = holdS s c row := by
  unfold evaS; rw [if_pos ⟨h1, h2⟩]
theorem cnd_not {s : Sch} {a : Cnd} (h : cndE s a = 0) (ht : totS a ≤ 38) (hd : depS a ≤ 9) : cndE s (.mk 7 0 0 0 0 [a]) = 0 := by
  obtain ⟨h1, _, _, h4⟩ := cndE_parts h
  have := tot_one 7 a
  exact cndE_of h1 (by omega) (by omega) (chk_not h4)
theorem cnd_two {s : Sch} {o : Int} {a b : Cnd} (ho : o = 5 ∨ o = 6) (ha : cndE s a = 0) (hb : cndE s b = 0) (ht : totS a + totS b ≤ 38) (hd : depS a ≤ 9 ∧ depS b ≤ 9) : cndE s (.mk o 0 0 0 0 [a, b]) = 0 := by
  obtain ⟨h1, _, _, h4⟩ := cndE_parts ha
  obtain ⟨_, _, _, h5⟩ := cndE_parts hb
  have := tot_two o a b
  exact cndE_of h1 (by omega) (by omega) (chk_two ho h4 h5)
/-- The whole range of a measure. -/
theorem whole_ok {s : Sch} (hd : Drawn s) {m : Nat} {c : Col} (hm : s.cols[m]? = some c) (hk : c.kind = 3) : cndE s (.mk 3 m 0 c.low c.high []) = 0 := by
  have hr := hd.ok
  have hlt := lt_of_get hm
  have hme := kindE_mea (colE_parts ((schE_parts hr).2.2.2.1 _ _ hm)).2.2.1 hk
  have hp := meaE_parts hme
  have hc : s.cols[(m : Int).toNat]? = some c := by simpa using hm
  have h1 : conE s (.mk 3 m 0 c.low c.high []) = 0 := by
    refine conE_03 (c := .mk 3 m 0 c.low c.high []) ⟨?_, rfl, ?_, ?_, .inl rfl⟩ rfl ?_ ?_
    · show 1 ≤ (3 : Int) ∧ (3 : Int) ≤ 7; omega
    · exact fun q => q.2.1 rfl
    · exact fun q => q.2 rfl
    · show 0 ≤ (m : Int) ∧ (m : Int) < s.cols.length ∧ (colAt s (m : Int)).kind = 3
      rw [colAt_get hc]
      omega
    · show ¬ (c.high < c.low ∨ c.low < -1000000 ∨ 1000000 < c.high)
      omega
  refine cndE_of hr ?_ ?_ ?_
  · show totL [] + 1 ≤ 40; decide
  · show depL [] 0 + 1 ≤ 10; decide
  · rw [chkS_eq, if_pos h1]; rfl
theorem whole_val {s : Sch} {row : List Int} {m : Nat} {c : Col} (hm : s.cols[m]? = some c) (hk : c.kind = 3) (hv : ValOk s c (row.getD m 0)) (hlo : -1000000 ≤ c.low) : holdS s (.mk 3 m 0 c.low c.high []) row = if row.getD m 0 = (-1099511627776) then 0 else 1 := by
  unfold holdS
  rw [telS_eq]
  show atomS s (.mk 3 m 0 c.low c.high []) (row.getD (m : Int).toNat 0) = _
  rw [Int.toNat_natCast]
  generalize row.getD m 0 = v at *
  rw [show atomS s (.mk 3 m 0 c.low c.high []) v = (if v = (-1099511627776) then 0 else truS (decide (c.low ≤ v ∧ v ≤ c.high))) from rfl]
  rcases hv with ⟨h, _⟩ | ⟨h, _⟩ | ⟨_, h⟩
  · omega
  · omega
  · rcases h with h | h
    · rw [if_neg (by omega), if_neg (by omega)]
      rw [decide_eq_true h]; rfl
    · rw [if_pos h.2, if_pos h.2]
set_option maxHeartbeats 16000000 in
theorem conditionLogic_call (l : List UInt8) (hl : l.length ≤ maxLen) : FCall Tryz.prog 8 [.sl 1 (l.map u8A)] (.b true) := by
  unfold maxLen at hl
  have hL : (l.take 400).length ≤ 400 := List.length_take_le _ _
  have hnew := new_call l (by omega)
  have hsch := schc_draw (l.take 400) 0 hL
  have hd := schS_drawn (l.take 400) 0
  generalize schS (l.take 400) 0 = s0 at *
  obtain ⟨s, a0⟩ := s0
  dsimp only at hsch hd
  generalize l.take 400 = t at *
  have ha := cond_draw t s hd hL 2 a0 (by omega)
  have qa := (cond_right hd t 2 a0 (by omega)).1
  have qa2 := (condS_ok hd t 2 a0).2
  generalize condS t s 2 a0 = A at *
  obtain ⟨a, a1⟩ := A
  dsimp only at ha qa qa2
  have hb := cond_draw t s hd hL 2 a1 (by omega)
  have qb := (cond_right hd t 2 a1 (by omega)).1
  have qb2 := (condS_ok hd t 2 a1).2
  generalize condS t s 2 a1 = B at *
  obtain ⟨b, a2⟩ := B
  dsimp only at hb qb qb2
  have hrow := rowc_draw t a2 s hd hL
  have hrok := rowS_ok hd t a2
  generalize rowS t a2 s = R at *
  obtain ⟨row, a3⟩ := R
  dsimp only at hrow hrok
  have hmea := measured_call t a3 s hd hL
  obtain ⟨_, _, hmk⟩ := colD_ok (l := t) (a := a3) hd.two.2
  have hmlt := (colD_ok (l := t) (a := a3) hd.two.2).2.1
  generalize colD t a3 s 3 = M at *
  obtain ⟨m, a4⟩ := M
  dsimp only at hmea hmk hmlt
  have hr0 : rowE s row = 0 := row_ok0 hd.ok hrok
  obtain ⟨c, hm⟩ : ∃ c, s.cols[m]? = some c := ⟨_, List.getElem?_eq_getElem hmlt⟩
  have hck : c.kind = 3 := by
    have h := colAt_get (s := s) (column := (m : Int)) (c := c) (by simpa using hm)
    rw [h] at hmk
    exact hmk
  have hme := meaE_parts (kindE_mea (colE_parts ((schE_parts hd.ok).2.2.2.1 _ _ hm)).2.2.1 hck)
  have hwo := whole_ok hd hm hck
  have hwv := whole_val hm hck (hrok.2 m c hm) (by omega)
  have ev : ∀ x v, cndE s x = 0 → holdS s x row = v → FCall Tryz.prog 24 [sA s, cndA x, .sl 1 (row.map wA)] (.i v) := fun x v h1 h2 =>
    (eval_call s x row).congr (by rw [eva_eq h1 hr0, h2])
  obtain ⟨va, hva⟩ : ∃ v, holdS s a row = v := ⟨_, rfl⟩
  obtain ⟨vb, hvb⟩ : ∃ v, holdS s b row = v := ⟨_, rfl⟩
  have ba : -1 ≤ va ∧ va ≤ 1 := by rw [← hva]; exact telS_bd (fun _ => atomS_bd _ _ _) a
  have bb : -1 ≤ vb ∧ vb ≤ 1 := by rw [← hvb]; exact telS_bd (fun _ => atomS_bd _ _ _) b
  have vnot : ∀ {x v}, holdS s x row = v → holdS s (.mk 7 0 0 0 0 [x]) row = -v := fun h => by rw [← h]; exact tel_not _ _
  have vand : ∀ {x y v w}, holdS s x row = v → holdS s y row = w → holdS s (.mk 5 0 0 0 0 [x, y]) row = min v w := fun h h2 => by rw [← h, ← h2]; exact tel_and _ _ _
  have vor : ∀ {x y v w}, holdS s x row = v → holdS s y row = w → holdS s (.mk 6 0 0 0 0 [x, y]) row = max v w := fun h h2 => by rw [← h, ← h2]; exact tel_or _ _ _
  have ta := tot_one 7 a
  have tb := tot_one 7 b
  have tn := tot_one 7 (.mk 7 0 0 0 0 [a])
  have tab := tot_two 5 a b
  have toab := tot_two 6 a b
  have k1 := cnd_not qa (by omega) (by omega)
  have k2 := cnd_not qb (by omega) (by omega)
  have k3 := cnd_not k1 (by omega) (by omega)
  have k4 := cnd_two (o := 5) (.inl rfl) qa qb (by omega) (by omega)
  have k5 := cnd_two (o := 6) (.inr rfl) qa qb (by omega) (by omega)
  have k6 := cnd_two (o := 5) (.inl rfl) qb qa (by omega) (by omega)
  have k7 := cnd_not k4 (by omega) (by omega)
  have k8 := cnd_two (o := 6) (.inr rfl) k1 k2 (by omega) (by omega)
  have k9 := cnd_not k5 (by omega) (by omega)
  have k10 := cnd_two (o := 5) (.inl rfl) k1 k2 (by omega) (by omega)
  have e1 := ev a va qa hva
  have e2 := ev b vb qb hvb
  have e3 := ev _ _ k1 (vnot hva)
  have e4 := ev _ _ k3 (vnot (vnot hva))
  have e5 := ev _ _ k4 (vand hva hvb)
  have e6 := ev _ _ k5 (vor hva hvb)
  have e7 := ev _ _ k6 (vand hvb hva)
  have e8 := ev _ _ k7 (vnot (vand hva hvb))
  have e9 := ev _ _ k8 (vor (vnot hva) (vnot hvb))
  have e10 := ev _ _ k10 (vand (vnot hva) (vnot hvb))
  obtain ⟨vm, hvm⟩ : ∃ v, row.getD m 0 = v := ⟨_, rfl⟩
  rw [hvm] at hwv
  have e11 : FCall Tryz.prog 24 [sA s, .agg [.i 3, .i m, .i 0, .i c.low, .i c.high, .v (.slice none 0 0)], .sl 1 (row.map wA)] (.i (if vm = (-1099511627776) then 0 else 1)) :=
    fcall_nl (ev _ _ hwo hwv) ⟨.refl _, nl_leaf 3 m 0 c.low c.high, .refl _, trivial⟩
  have o1 := opp_call a
  have o2 := opp_call b
  have o3 := opp_call (.mk 7 0 0 0 0 [a])
  have o4 := opp_call (.mk 5 0 0 0 0 [a, b])
  have p1 := lpair_call 5 a b
  have p2 := lpair_call 6 a b
  have p3 := lpair_call 5 b a
  have p4 := lpair_call 6 (.mk 7 0 0 0 0 [a]) (.mk 7 0 0 0 0 [b])
  have p5 := lpair_call 5 (.mk 7 0 0 0 0 [a]) (.mk 7 0 0 0 0 [b])
  have o5 := opp_call (.mk 6 0 0 0 0 [a, b])
  have hrl : row.length = s.cols.length := hrok.1
  have hrm : (row.map wA)[m]? = some (wA vm) := by
    rw [List.getElem?_map, List.getElem?_eq_getElem (by omega), ← hvm, List.getD_eq_getElem?_getD, List.getElem?_eq_getElem (by omega)]
    rfl
  have hcm : (s.cols.map colL)[m]? = some (colL c) := by rw [List.getElem?_map, hm]; rfl
  have hml : m < 1000000 := by have := (schE_parts hd.ok).2.1; omega
  clear hvm hwv hwo hme hck hmk hd hrok hr0 ev vnot vand vor ta tb tn tab toab k1 k2 k3 k4 k5 k6 k7 k8 k9 k10 qa qb qa2 qb2 hva hvb
  refine fcall_intro (n := 150) Tryz.func8 (by kernel_rfl) rfl rfl rfl rfl rfl (by intro t T h; cases h) (fun hrd E h0 => ?_)
  clear hrd
  repeat' ((first | refine ncall_g [] [] hnew rfl rfl rfl rfl rfl trivial rfl rfl rfl rfl rfl ?_ | refine ⟨ncall_h [0] [0] hsch rfl rfl rfl rfl rfl ⟨rfl, trivial⟩ rfl rfl rfl rfl rfl ?_⟩  | refine aops_go ?_ | refine awp_go ?_ | refine guard_tt ?_ | refine guard_ff ?_ | refine guard_tf ?_ | refine guard_ft ?_ | refine cond_t ?_ | refine cond_f ?_ | (refine each_knownm (by assumption) (by omega) ?_) | (refine each_known (by assumption) (by omega) ?_) | refine stp ?_ | (refine And.intro (fun h => ?_) (fun h => ?_) <;> try (first | (exfalso; omega) | exact absurd rfl h)) | (refine side_i ?_ ?_; (first | omega | exact Eq.refl _ | exact ⟨Eq.refl _, by omega⟩ | (simp only [List.length_map]; omega) | exact imsB rfl | exact ims_map fun _ => rfl | (constructor <;> (simp only [elsA, cellsA, List.length_cons, List.length_nil, List.length_map]; omega)))) | (refine each_mapNb ?_ (fun el hel hbB => ?_); omega) | (refine each_mapb ?_ ?_ (fun el hel hbB => ?_); omega; omega) | (refine each_lb ?_ ?_ (fun el hel hbB => ?_); omega; omega) | (refine each_mapN ?_ (fun el hel => ?_); omega) | (refine each_map ?_ ?_ (fun el hel => ?_); omega; omega) | (refine each_l ?_ ?_ (fun el hel => ?_); omega; omega) | (refine conv_bytes ?_ ?_; omega) | (refine aany_go ?_ ?_ ?_; kernel_rfl; rfl) | (refine many_step ?_ ?_ ?_; kernel_rfl; kernel_rfl) | refine ex_i (fun ex => ?_) | refine allMP_c ?_ ?_ | exact allMP_n | (refine mpost_i ?_ ?_ ?_ ?_; rfl; rfl; rfl) | (refine free_i ?_ ?_; exact ⟨by kernel_rfl, by decide⟩) | refine allI_c ?_ ?_ | exact allI_n | (refine draw_p ?_ ?_ ?_; rfl; kernel_rfl)) <;> (try (conv => whnf)))
  refine draw_le (σ' := ⟨[(3, .ref 0 0), (4, .iptr (sL s))], 1, [(0, some (.box [.sl 1 (t.map u8A), .i a0]))]⟩) (le_of h0 rfl ⟨rfl, rfl, trivial⟩ ⟨rfl, trivial⟩ rfl rfl rfl) ?_
  refine draw_m (id := 3) ⟨[(3, .ref 0 0), (4, .iptr (sL s)), (5, .iptr (cndX a)), (6, .iptr (cndX b)), (7, .sl 1 (row.map wA))], 1, [(0, some (.box [.sl 1 (t.map u8A), .i a3]))]⟩ ?_ ?_
  · clear hnew hsch hl hL e1 e2 e3 e4 e5 e6 e7 e8 e9 e10 e11 o1 o2 o3 o4 o5 p1 p2 p3 p4 p5 hmea hrm hcm hml ba bb hm hrl hmlt
    repeat' ((first | refine ⟨ncall_h [0] [0] ha rfl rfl rfl rfl rfl ⟨rfl, trivial⟩ rfl rfl rfl rfl rfl ?_⟩ | refine ⟨ncall_h [0] [0] hb rfl rfl rfl rfl rfl ⟨rfl, trivial⟩ rfl rfl rfl rfl rfl ?_⟩ | refine ⟨ncall_h [0] [0] hrow rfl rfl rfl rfl rfl ⟨rfl, trivial⟩ rfl rfl rfl rfl rfl ?_⟩  | refine aops_go ?_ | refine awp_go ?_ | refine guard_tt ?_ | refine guard_ff ?_ | refine guard_tf ?_ | refine guard_ft ?_ | refine cond_t ?_ | refine cond_f ?_ | (refine each_knownm (by assumption) (by omega) ?_) | (refine each_known (by assumption) (by omega) ?_) | refine stp ?_ | (refine And.intro (fun h => ?_) (fun h => ?_) <;> try (first | (exfalso; omega) | exact absurd rfl h)) | (refine side_i ?_ ?_; (first | omega | exact Eq.refl _ | exact ⟨Eq.refl _, by omega⟩ | (simp only [List.length_map]; omega) | exact imsB rfl | exact ims_map fun _ => rfl | (constructor <;> (simp only [elsA, cellsA, List.length_cons, List.length_nil, List.length_map]; omega)))) | (refine each_mapNb ?_ (fun el hel hbB => ?_); omega) | (refine each_mapb ?_ ?_ (fun el hel hbB => ?_); omega; omega) | (refine each_lb ?_ ?_ (fun el hel hbB => ?_); omega; omega) | (refine each_mapN ?_ (fun el hel => ?_); omega) | (refine each_map ?_ ?_ (fun el hel => ?_); omega; omega) | (refine each_l ?_ ?_ (fun el hel => ?_); omega; omega) | (refine conv_bytes ?_ ?_; omega) | (refine aany_go ?_ ?_ ?_; kernel_rfl; rfl) | (refine many_step ?_ ?_ ?_; kernel_rfl; kernel_rfl) | refine ex_i (fun ex => ?_) | refine allMP_c ?_ ?_ | exact allMP_n | (refine mpost_i ?_ ?_ ?_ ?_; rfl; rfl; rfl) | (refine free_i ?_ ?_; exact ⟨by kernel_rfl, by decide⟩) | refine allI_c ?_ ?_ | exact allI_n | (refine draw_p ?_ ?_ ?_; rfl; kernel_rfl)) <;> (try (conv => whnf)))
    all_goals first
      | exact le_of h0 rfl ⟨rfl, rfl, rfl, rfl, rfl, trivial⟩ ⟨rfl, trivial⟩ rfl rfl rfl
      | trace_state
  clear hnew hsch ha hb hrow
  repeat' ((first | refine call_i e1 ?_ | refine call_i e2 ?_ | refine call_i e3 ?_ | refine call_i e4 ?_ | refine call_i e5 ?_ | refine call_i e6 ?_ | refine call_i e7 ?_ | refine call_i e8 ?_ | refine call_i e9 ?_ | refine call_i e10 ?_ | refine call_i e11 ?_ | refine call_i o1 ?_ | refine call_i o2 ?_ | refine call_i o3 ?_ | refine call_i o4 ?_ | refine call_i o5 ?_ | refine call_i p1 ?_ | refine call_i p2 ?_ | refine call_i p3 ?_ | refine call_i p4 ?_ | refine call_i p5 ?_ | refine call_i awake5_call ?_ | refine ⟨ncall_h [0] [0] hmea rfl rfl rfl rfl rfl ⟨rfl, trivial⟩ rfl rfl rfl rfl rfl ?_⟩  | refine aops_go ?_ | refine awp_go ?_ | refine guard_tt ?_ | refine guard_ff ?_ | refine guard_tf ?_ | refine guard_ft ?_ | refine cond_t ?_ | refine cond_f ?_ | (refine each_knownm (by assumption) (by omega) ?_) | (refine each_known (by assumption) (by omega) ?_) | refine stp ?_ | (refine And.intro (fun h => ?_) (fun h => ?_) <;> try (first | (exfalso; omega) | exact absurd rfl h)) | (refine side_i ?_ ?_; (first | omega | exact Eq.refl _ | exact ⟨Eq.refl _, by omega⟩ | (simp only [List.length_map]; omega) | exact imsB rfl | exact ims_map fun _ => rfl | (constructor <;> (simp only [elsA, cellsA, List.length_cons, List.length_nil, List.length_map]; omega)))) | (refine each_mapNb ?_ (fun el hel hbB => ?_); omega) | (refine each_mapb ?_ ?_ (fun el hel hbB => ?_); omega; omega) | (refine each_lb ?_ ?_ (fun el hel hbB => ?_); omega; omega) | (refine each_mapN ?_ (fun el hel => ?_); omega) | (refine each_map ?_ ?_ (fun el hel => ?_); omega; omega) | (refine each_l ?_ ?_ (fun el hel => ?_); omega; omega) | (refine conv_bytes ?_ ?_; omega) | (refine aany_go ?_ ?_ ?_; kernel_rfl; rfl) | (refine many_step ?_ ?_ ?_; kernel_rfl; kernel_rfl) | refine ex_i (fun ex => ?_) | refine allMP_c ?_ ?_ | exact allMP_n | (refine mpost_i ?_ ?_ ?_ ?_; rfl; rfl; rfl) | (refine free_i ?_ ?_; exact ⟨by kernel_rfl, by decide⟩) | refine allI_c ?_ ?_ | exact allI_n | (refine draw_p ?_ ?_ ?_; rfl; kernel_rfl)) <;> (try (conv => whnf)))
  refine draw_le (σ' := ⟨[(4, .iptr (sL s)), (7, .sl 1 (row.map wA)), (12, .i m)], 1, [(0, some (.box [.sl 1 (t.map u8A), .i a4]))]⟩) (le_of h0 rfl ⟨rfl, rfl, rfl, trivial⟩ ⟨rfl, trivial⟩ rfl rfl rfl) ?_
  refine draw_m (id := 11) ⟨[(4, .iptr (sL s)), (7, .sl 1 (row.map wA)), (12, .i m), (13, .iptr [.i 3, .i m, .i 0, .i c.low, .i c.high, .v (.slice none 0 0)])], 1, [(0, some (.box [.sl 1 (t.map u8A), .i a4]))]⟩ ?_ ?_
  · clear e1 e2 e3 e4 e5 e6 e7 e8 e9 e10 e11 o1 o2 o3 o4 o5 p1 p2 p3 p4 p5 hmea hrm ba bb
    repeat' ((first | refine aops_go ?_ | refine awp_go ?_ | refine guard_tt ?_ | refine guard_ff ?_ | refine guard_tf ?_ | refine guard_ft ?_ | refine cond_t ?_ | refine cond_f ?_ | (refine each_knownm (by assumption) (by omega) ?_) | (refine each_known (by assumption) (by omega) ?_) | refine stp ?_ | (refine And.intro (fun h => ?_) (fun h => ?_) <;> try (first | (exfalso; omega) | exact absurd rfl h)) | (refine side_i ?_ ?_; (first | omega | exact Eq.refl _ | exact ⟨Eq.refl _, by omega⟩ | (simp only [List.length_map]; omega) | exact imsB rfl | exact ims_map fun _ => rfl | (constructor <;> (simp only [elsA, cellsA, List.length_cons, List.length_nil, List.length_map]; omega)))) | (refine each_mapNb ?_ (fun el hel hbB => ?_); omega) | (refine each_mapb ?_ ?_ (fun el hel hbB => ?_); omega; omega) | (refine each_lb ?_ ?_ (fun el hel hbB => ?_); omega; omega) | (refine each_mapN ?_ (fun el hel => ?_); omega) | (refine each_map ?_ ?_ (fun el hel => ?_); omega; omega) | (refine each_l ?_ ?_ (fun el hel => ?_); omega; omega) | (refine conv_bytes ?_ ?_; omega) | (refine aany_go ?_ ?_ ?_; kernel_rfl; rfl) | (refine many_step ?_ ?_ ?_; kernel_rfl; kernel_rfl) | refine ex_i (fun ex => ?_) | refine allMP_c ?_ ?_ | exact allMP_n | (refine mpost_i ?_ ?_ ?_ ?_; rfl; rfl; rfl) | (refine free_i ?_ ?_; exact ⟨by kernel_rfl, by decide⟩) | refine allI_c ?_ ?_ | exact allI_n | (refine draw_p ?_ ?_ ?_; rfl; kernel_rfl)) <;> (try (conv => whnf)))
    all_goals first
      | exact le_of h0 rfl ⟨rfl, rfl, rfl, rfl, trivial⟩ ⟨rfl, trivial⟩ rfl rfl rfl
      | trace_state
  repeat' ((first | refine call_i e1 ?_ | refine call_i e2 ?_ | refine call_i e3 ?_ | refine call_i e4 ?_ | refine call_i e5 ?_ | refine call_i e6 ?_ | refine call_i e7 ?_ | refine call_i e8 ?_ | refine call_i e9 ?_ | refine call_i e10 ?_ | refine call_i e11 ?_ | refine call_i o1 ?_ | refine call_i o2 ?_ | refine call_i o3 ?_ | refine call_i o4 ?_ | refine call_i o5 ?_ | refine call_i p1 ?_ | refine call_i p2 ?_ | refine call_i p3 ?_ | refine call_i p4 ?_ | refine call_i p5 ?_ | refine call_i awake5_call ?_ | refine ⟨ncall_h [0] [0] hmea rfl rfl rfl rfl rfl ⟨rfl, trivial⟩ rfl rfl rfl rfl rfl ?_⟩  | refine aops_go ?_ | refine awp_go ?_ | refine guard_tt ?_ | refine guard_ff ?_ | refine guard_tf ?_ | refine guard_ft ?_ | refine cond_t ?_ | refine cond_f ?_ | (refine each_knownm (by assumption) (by omega) ?_) | (refine each_known (by assumption) (by omega) ?_) | refine stp ?_ | (refine And.intro (fun h => ?_) (fun h => ?_) <;> try (first | (exfalso; omega) | exact absurd rfl h)) | (refine side_i ?_ ?_; (first | omega | exact Eq.refl _ | exact ⟨Eq.refl _, by omega⟩ | (simp only [List.length_map]; omega) | exact imsB rfl | exact ims_map fun _ => rfl | (constructor <;> (simp only [elsA, cellsA, List.length_cons, List.length_nil, List.length_map]; omega)))) | (refine each_mapNb ?_ (fun el hel hbB => ?_); omega) | (refine each_mapb ?_ ?_ (fun el hel hbB => ?_); omega; omega) | (refine each_lb ?_ ?_ (fun el hel hbB => ?_); omega; omega) | (refine each_mapN ?_ (fun el hel => ?_); omega) | (refine each_map ?_ ?_ (fun el hel => ?_); omega; omega) | (refine each_l ?_ ?_ (fun el hel => ?_); omega; omega) | (refine conv_bytes ?_ ?_; omega) | (refine aany_go ?_ ?_ ?_; kernel_rfl; rfl) | (refine many_step ?_ ?_ ?_; kernel_rfl; kernel_rfl) | refine ex_i (fun ex => ?_) | refine allMP_c ?_ ?_ | exact allMP_n | (refine mpost_i ?_ ?_ ?_ ?_; rfl; rfl; rfl) | (refine free_i ?_ ?_; exact ⟨by kernel_rfl, by decide⟩) | refine allI_c ?_ ?_ | exact allI_n | (refine draw_p ?_ ?_ ?_; rfl; kernel_rfl)) <;> (try (conv => whnf)))
  all_goals first
    | exact ret_tmp rfl rfl
    | trace_state
theorem conditionLogic_all (l : List AV) (h : AShapes Tryz.prog Tryz.f8.params.toList l) : FCall Tryz.prog 8 l (.b true) := by
  obtain ⟨a1, r, rfl, h1, rfl⟩ := h
  obtain ⟨l, hl, rfl⟩ := ash_by h1
  exact conditionLogic_call l hl
end Go.Proofs.YtghlhejdfgkjaaaGreatDoor
