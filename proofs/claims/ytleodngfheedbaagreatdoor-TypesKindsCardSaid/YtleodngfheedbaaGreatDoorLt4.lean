/- TypesKinds: a number can be made of numbers alone. -/
import Derived.Test.YtleodngfheedbaaGreatDoorAw7
import Derived.Test.YtleodngfheedbaaGreatDoorF6
import Derived.Test.YtleodngfheedbaaGreatDoorDx2
import Derived.Test.YtleodngfheedbaaGreatDoorCB
import Derived.Test.YtleodngfheedbaaGreatDoorC5
namespace Go.Proofs.YtleodngfheedbaaGreatDoor
open Go Go.Av
attribute [local irreducible] AWp AOps AAny MAny DQ retQ retG St.le FCall GCall
set_option linter.unusedVariables false
set_option linter.unnecessarySimpa false
set_option linter.unusedSimpArgs false
set_option maxRecDepth 100000

abbrev v0N : List UInt8 := [118, 48]
def nam17 : Xpr := .mk 2 0 v0N 0 [] [] zC zC []
theorem nam_rig (s : Sch) : RigE s nam17 := rig_leaf (by decide) (by decide) ⟨.inr rfl, .inl rfl, .inr rfl, .inr rfl, .inr rfl, .inr zC_emp, .inr zC_emp, .inr rfl⟩ ((par2 rfl).trans (by decide)) (fun h => absurd h (by simp only [usCnd, nam17, Xpr.op]; omega)) (fun h => absurd h (by simp only [usEvt, nam17, Xpr.op]; omega))
theorem pair_rig {s : Sch} {x : Xpr} (o : Int) (ho : 6 ≤ o ∧ o ≤ 9) (hx : rigS s x = true) (px : numP x.op) : rigS s (.mk o 0 [] 0 [] [] zC zC [nam17, x]) = true := by
  refine rig_mk ⟨?_, ?_, ?_, ?_, ?_, fun _ => rfl, ?_⟩
  · show 1 ≤ o ∧ o ≤ 14; omega
  · exact ⟨.inr rfl, .inr rfl, .inr rfl, .inr rfl, .inr rfl, .inr zC_emp, .inr zC_emp, .inl ho⟩
  · exact par3 (.inr ho)
  · intro h; simp only [usCnd, Xpr.op] at h; omega
  · intro h; simp only [usEvt, Xpr.op] at h; omega
  · intro k hk
    simp only [Xpr.kids, List.mem_cons, List.not_mem_nil, or_false] at hk
    rcases hk with rfl | rfl
    · exact ⟨by decide, rig_mk (nam_rig s)⟩
    · exact ⟨px, hx⟩
theorem kin_nam (bs : List Bnd) : kinS bs nam17 = bndK bs v0N := by
  rw [kinS_eq]; rfl
theorem kin_pair {bs : List Bnd} {x : Xpr} (o : Int) (ho : 6 ≤ o ∧ o ≤ 9) (hx : kinS bs x = (1, 0)) : kinS bs (.mk o 0 [] 0 [] [] zC zC [nam17, x]) = if (bndK bs v0N).2 = 0 then (if (bndK bs v0N).1 = 1 then (1, 0) else (0, 16)) else (0, (bndK bs v0N).2) := by
  have e1 : ¬ (Xpr.mk o 0 [] 0 [] [] zC zC [nam17, x]).op = 2 := by show ¬ o = 2; omega
  have e2 : numP (Xpr.mk o 0 [] 0 [] [] zC zC [nam17, x]).op := by show 1 ≤ o ∧ o ≤ 9; omega
  have e3 : kinL bs (Xpr.mk o 0 [] 0 [] [] zC zC [nam17, x]).kids true = if (bndK bs v0N).2 = 0 then (0, decide ((bndK bs v0N).1 = 1)) else ((bndK bs v0N).2, true) := by
    show kinL bs [nam17, x] true = _
    rw [kinL, kin_nam]
    split
    · rw [kinL, hx]; simp [kinL]
    · rfl
  rw [kinS_eq, e3]
  by_cases h : (bndK bs v0N).2 = 0
  · rw [if_pos h, if_pos h]
    dsimp only
    rw [if_pos rfl]
    unfold endK
    rw [if_neg e1]
    by_cases h2 : (bndK bs v0N).1 = 1
    · rw [decide_eq_true h2, if_neg (by decide), if_pos e2, if_pos h2]
    · rw [decide_eq_false h2, if_pos rfl, if_neg h2]
  · rw [if_neg h, if_neg h]
    dsimp only
    rw [if_neg h]
def nmC : List AV := [.i 2, .i 0, .str v0N, .i 0, nilA, nilA, .i 0, .i 0, .i 0, .i 0, .i 0, nilA, .i 0, .i 0, .i 0, .i 0, .i 0, nilA, nilA]
theorem nm_nl : NLs nmC (xprX nam17) := ⟨.refl _, .refl _, .refl _, .refl _, .nil 1, .nil 2, .refl _, .refl _, .refl _, .refl _, .refl _, .nil 6, .refl _, .refl _, .refl _, .refl _, .refl _, .nil 6, .nil 19, trivial⟩
def prC (o : Int) (y : Xpr) : List AV := [.i o, .i 0, .str [], .i 0, nilA, nilA, .i 0, .i 0, .i 0, .i 0, .i 0, nilA, .i 0, .i 0, .i 0, .i 0, .i 0, nilA, .sl 19 [nmC, xprX y]]
theorem pr_nl (o : Int) (y : Xpr) : NL (.agg (prC o y)) (xprA (.mk o 0 [] 0 [] [] zC zC [nam17, y])) := by
  refine nl_xpr (.mk o 0 [] 0 [] [] zC zC [nam17, y]) (.nil 1) (.nil 2) (.nil 6) (.nil 6) ?_
  rw [map_xpr]
  exact nl_sl ⟨nm_nl, NLs.refl _, trivial⟩
def bfK (j k : Int) : List Bnd := [⟨v0N, j⟩, ⟨v0N, k⟩]
theorem bfK_bnd (j k : Int) : bndK (bfK j k) v0N = (k, 0) := by
  unfold bndK bfK
  simp [lookK]
set_option maxHeartbeats 16000000 in
theorem typesKinds_call (l : List UInt8) (kd op : UInt8) (hl : l.length ≤ maxLen) : FCall Tryz.prog 6 [.sl 1 (l.map u8A), .v (.int .u8 kd.toNat), .v (.int .u8 op.toNat)] (.b true) := by
  unfold maxLen at hl
  have hL : (l.take 400).length ≤ 400 := List.length_take_le _ _
  have hnew := new_call l (by omega)
  have hsch := schc_draw (l.take 400) 0 hL
  have hd := schS_drawn (l.take 400) 0
  generalize schS (l.take 400) 0 = s0 at *
  obtain ⟨s, a0⟩ := s0
  dsimp only at hsch hd
  generalize l.take 400 = t at *
  have hall := all_call s hd
  have hnum := num0_draw t s hd hL 1 a0 (by omega)
  obtain ⟨nok, npo⟩ := numS_ok hd t [] (fun nm h => by cases h) 1 a0
  generalize numS t s [] 1 a0 = N0 at *
  obtain ⟨y, a1⟩ := N0
  dsimp only at hnum nok npo
  rw [show ((1 : Nat) : Int) = 1 from rfl] at hnum
  have hky : ∀ bs, kinS bs y = (1, 0) := fun bs => by
    obtain ⟨h1, h2⟩ := nok.kin bs (fun nm h => by cases h)
    exact Prod.ext (h2 npo) h1
  have h6 : 0 ≤ (kd.toNat : Int).tmod 6 ∧ (kd.toNat : Int).tmod 6 < 6 := by
    rw [Int.tmod_eq_emod_of_nonneg (by omega)]; omega
  have h62 : 0 ≤ (1 + (kd.toNat : Int).tmod 6 + 2).tmod 6 ∧ (1 + (kd.toNat : Int).tmod 6 + 2).tmod 6 < 6 := by
    rw [Int.tmod_eq_emod_of_nonneg (by omega)]; omega
  have h4 : 0 ≤ (op.toNat : Int).tmod 4 ∧ (op.toNat : Int).tmod 4 < 4 := by
    rw [Int.tmod_eq_emod_of_nonneg (by omega)]; omega
  obtain ⟨K, hK⟩ : ∃ K, K = (kd.toNat : Int).tmod 6 := ⟨_, rfl⟩
  obtain ⟨J, hJ⟩ : ∃ J, J = (1 + (kd.toNat : Int).tmod 6 + 2).tmod 6 := ⟨_, rfl⟩
  obtain ⟨O, hO⟩ : ∃ O, O = (op.toNat : Int).tmod 4 := ⟨_, rfl⟩
  have c1 := fcall_nl ((texpr_call s (allP s) (bfK (1 + J) (1 + K)) nam17).congr (congrArg (fun z : Int × Int => AV.tup [.i z.1, .i z.2]) ((exk_all hd _ (rig_mk (nam_rig s))).trans ((kin_nam _).trans (bfK_bnd _ _))))) (l' := [sA s, .sl 2 ((allP s).map pkL), .sl 26 [bndL ⟨v0N, 1 + J⟩, bndL ⟨v0N, 1 + K⟩], .agg nmC]) ⟨.refl _, .refl _, .refl _, nl_agg nm_nl, trivial⟩
  have hxr : rigS s (.mk (6 + O) 0 [] 0 [] [] zC zC [nam17, y]) = true := pair_rig (6 + O) (by omega) nok.rig npo
  obtain ⟨B, F, hBF, hc2⟩ : ∃ B F : Int, kinS (bfK (1 + J) (1 + K)) (.mk (6 + O) 0 [] 0 [] [] zC zC [nam17, y]) = (B, F) ∧ (K = 0 ∧ B = 1 ∧ F = 0 ∨ K ≠ 0 ∧ B = 0 ∧ F = 16) := by
    have e := kin_pair (bs := bfK (1 + J) (1 + K)) (6 + O) (by omega) (hky _)
    rw [bfK_bnd, if_pos rfl] at e
    by_cases h : 1 + K = 1
    · rw [if_pos h] at e; exact ⟨1, 0, e, .inl ⟨by omega, rfl, rfl⟩⟩
    · rw [if_neg h] at e; exact ⟨0, 16, e, .inr ⟨by omega, rfl, rfl⟩⟩
  have c2 := fcall_nl ((texpr_call s (allP s) (bfK (1 + J) (1 + K)) (.mk (6 + O) 0 [] 0 [] [] zC zC [nam17, y])).congr (congrArg (fun z : Int × Int => AV.tup [.i z.1, .i z.2]) ((exk_all hd _ hxr).trans hBF))) (l' := [sA s, .sl 2 ((allP s).map pkL), .sl 26 [bndL ⟨v0N, 1 + J⟩, bndL ⟨v0N, 1 + K⟩], .agg (prC (6 + O) y)]) ⟨.refl _, .refl _, .refl _, pr_nl _ _, trivial⟩
  have hg3 : kinS [] (.mk (6 + O) 0 [] 0 [] [] zC zC [nam17, y]) = (0, 24) := by
    rw [kin_pair (6 + O) (by omega) (hky _)]
    rfl
  have c3 := fcall_nl ((texpr_call s (allP s) [] (.mk (6 + O) 0 [] 0 [] [] zC zC [nam17, y])).congr (congrArg (fun z : Int × Int => AV.tup [.i z.1, .i z.2]) ((exk_all hd _ hxr).trans hg3))) (l' := [sA s, .sl 2 ((allP s).map pkL), nilA, .agg (prC (6 + O) y)]) ⟨.refl _, .refl _, .nil 26, pr_nl _ _, trivial⟩
  clear hBF hxr hg3 hky nok npo
  rw [hJ, hK] at c1 c2
  rw [hO] at c2 c3
  rw [hK] at hc2
  clear hK hJ hO
  refine fcall_intro (n := 109) Tryz.func6 (by kernel_rfl) rfl rfl rfl rfl rfl (by intro t T h; cases h) (fun hrd E h0 => ?_)
  clear hrd
  repeat' ((first | refine call_i awake7_call ?_ | refine ncall_g [] [] hnew rfl rfl rfl rfl rfl trivial rfl rfl rfl rfl rfl ?_ | refine ⟨ncall_h [0] [0] hsch rfl rfl rfl rfl rfl ⟨rfl, trivial⟩ rfl rfl rfl rfl rfl ?_⟩ | refine call_i hall ?_ | refine ⟨ncall_h [0] [0] hnum rfl rfl rfl rfl rfl ⟨rfl, trivial⟩ rfl rfl rfl rfl rfl ?_⟩ | refine call_i c1 ?_ | refine call_i c2 ?_ | refine call_i c3 ?_ |refine aops_go ?_|refine awp_go ?_|refine guard_tt ?_|refine guard_ff ?_|refine guard_tf ?_|refine guard_ft ?_|refine cond_t ?_|refine cond_f ?_|refine Z1 ?_|refine Z2 ?_|refine stp ?_|(refine And.intro ?_ ?_<;>intro h<;>try first|(exfalso;omega)|exact absurd rfl h)|refine Z3 ?_|refine Z4 ?_|intro el hel hbB|intro el hel|intro ex|refine Z5 ?_|(refine free_i ?_ ?_;exact ⟨by kernel_rfl,by decide⟩)|refine allI_c ?_ ?_|exact allI_n|refine allMP_c ?_ ?_|exact allMP_n|(refine many_step ?_ ?_ ?_;kernel_rfl;kernel_rfl) | (refine draw_id 7 ?_; refine draw_le (id := 7) (σ' := ⟨[(2, .v (.int .u8 op.toNat)), (7, .ref 0 0), (8, .iptr (sL s)), (10, .sl 2 ((allP s).map pkL)), (11, .i (1 + (kd.toNat : Int).tmod 6)), (12, .sl 26 [bndL ⟨v0N, 1 + (1 + (kd.toNat : Int).tmod 6 + 2).tmod 6⟩, bndL ⟨v0N, 1 + (kd.toNat : Int).tmod 6⟩]), (13, .iptr nmC)], 1, [(0, some (.box [.sl 1 (t.map u8A), .i a0]))]⟩) (le_of h0 rfl ⟨rfl, rfl, rfl, rfl, rfl, rfl, rfl, trivial⟩ ⟨rfl, trivial⟩ rfl rfl rfl) ?_; refine draw_m (id := 7) ⟨[(8, .iptr (sL s)), (10, .sl 2 ((allP s).map pkL)), (11, .i (1 + (kd.toNat : Int).tmod 6)), (12, .sl 26 [bndL ⟨v0N, 1 + (1 + (kd.toNat : Int).tmod 6 + 2).tmod 6⟩, bndL ⟨v0N, 1 + (kd.toNat : Int).tmod 6⟩]), (13, .iptr nmC), (14, .iptr (prC (6 + (op.toNat : Int).tmod 4) y))], 0, []⟩ ?_ ?_)) <;> (try (conv => whnf)))
  all_goals first
    | exact le_of h0 rfl ⟨rfl, rfl, rfl, rfl, rfl, rfl, trivial⟩ trivial rfl rfl rfl
    | exact ret_tmp rfl rfl
    | (exfalso; omega)
    | trace_state
theorem typesKinds_all (l : List AV) (h : AShapes Tryz.prog Tryz.f6.params.toList l) : FCall Tryz.prog 6 l (.b true) := by
  obtain ⟨a1, r1, rfl, h1, a2, r2, rfl, h2, a3, r3, rfl, h3, rfl⟩ := h
  obtain ⟨l, hl, rfl⟩ := ash_by h1
  obtain ⟨m, hm, rfl⟩ := ash_u8 Tryz.underlying5 h2
  obtain ⟨k, hk, rfl⟩ := ash_u8 Tryz.underlying5 h3
  have e : m = (UInt8.ofNat m).toNat := by simp; omega
  have e2 : k = (UInt8.ofNat k).toNat := by simp; omega
  rw [e, e2]
  exact typesKinds_call l (UInt8.ofNat m) (UInt8.ofNat k) hl
end Go.Proofs.YtleodngfheedbaaGreatDoor
