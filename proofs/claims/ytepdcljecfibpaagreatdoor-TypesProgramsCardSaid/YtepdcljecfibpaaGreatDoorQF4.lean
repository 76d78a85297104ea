/- Chapter 17: the reference's needs. Chapter 17: the reference's needs of an expression. -/
import Derived.Test.YtepdcljecfibpaaGreatDoorQF6
import Derived.Test.YtepdcljecfibpaaGreatDoorQF2
import Derived.Test.YtepdcljecfibpaaGreatDoorQCe6
import Derived.Test.YtepdcljecfibpaaGreatDoorQCe8
import Derived.Test.YtepdcljecfibpaaGreatDoorQB15
import Derived.Test.YtepdcljecfibpaaGreatDoorQB12
namespace Go.Proofs.YtepdcljecfibpaaGreatDoor
open Go Go.Av
attribute [local irreducible] AWp AOps AAny MAny DQ retQ retG St.le FCall GCall
set_option linter.unusedVariables false
set_option linter.unnecessarySimpa false
set_option linter.unusedSimpArgs false
set_option maxRecDepth 100000
abbrev colP (s : Sch) (L : List Pk) : List Pk := pksR (lvM L) 0 s.cols.length
theorem colP_raise {s : Sch} {L : List Pk} {p : Pk} (h1 : 0 ≤ p.col) (h2 : p.col < s.cols.length) (h3 : 0 ≤ p.lev) : raiseS (colP s L) p.col p.lev = colP s (L ++ [p]) := by
  rw [colP, raise_pks h1 h2 h3 (lvM_nn L), ← lvM_snoc]
theorem rais_call (s : Sch) (L : List Pk) (p : Pk) (hn : s.cols.length ≤ 1000) (h1 : 0 ≤ p.col) (h2 : p.col < s.cols.length) (h3 : 0 ≤ p.lev) : FCall Tryz.prog 87 [.sl 2 ((colP s L).map pkL), .i p.col, .i p.lev] (.sl 2 ((colP s (L ++ [p])).map pkL)) := by
  have h := raise_call (colP s L) p.col p.lev (by have := pksR_length (lvM L) s.cols.length 0; unfold colP; omega)
  rwa [colP_raise h1 h2 h3] at h
theorem need_ok {s : Sch} {c : Cnd} : ∀ p ∈ needS s c, (0 ≤ p.col ∧ p.col < s.cols.length) ∧ 0 ≤ p.lev := fun p hp => by
  refine ⟨need_in p hp, ?_⟩
  unfold needS at hp
  split at hp
  · have := pksR_mem hp; omega
  · cases hp
theorem ned_ok {s : Sch} {e : Xpr} : ∀ p ∈ nedS s e, (0 ≤ p.col ∧ p.col < s.cols.length) ∧ 0 ≤ p.lev := fun p hp => by
  refine ⟨ned_in p hp, ?_⟩
  rw [nedS_eq] at hp
  have := pksR_mem hp; omega
theorem least_nn {s : Sch} {c l : Int} (h1 : 0 ≤ l) (h2 : l ≤ finestS s c) : 0 ≤ leastS s c l := by
  unfold leastS
  rw [if_neg (by omega)]; omega
theorem exa_nn {s : Sch} (hr : schE s = 0) {c : Int} (h : isB s c 3 = true) : 0 ≤ (exaS s c).lev := by
  have hp := mea_pos hr h
  obtain ⟨h0, h1, x, hx, hk⟩ := isB_col h
  exact least_nn (by rw [fin_nn hr hp hx hk]; omega) (Int.le_refl _)
theorem dim_nn {s : Sch} (hr : schE s = 0) {d : Pk} (h : pickE s d = 0) : (0 ≤ (dimS s d).col ∧ (dimS s d).col < s.cols.length) ∧ 0 ≤ (dimS s d).lev := by
  have hp := pick_col2 h
  unfold pickE pkE at h
  rw [if_pos hr] at h
  refine ⟨hp, ?_⟩
  have hf : finestS s d.col = finS s d.col := by unfold finestS; rw [if_pos hr]
  split at h
  · cases h
  · split at h
    · cases h
    · exact least_nn (by omega) (by omega)
theorem hist_nn {s : Sch} (hr : schE s = 0) {c w : Int} (h : isB s c 3 = true) : 0 ≤ leastS s c (levO (colAt s c).widths w) := by
  have hp := mea_pos hr h
  obtain ⟨h0, h1, x, hx, hk⟩ := isB_col h
  have hb := levO_bd (colAt s c).widths w
  have hf := fin_nn hr hp hx hk
  rw [← colAt_get hx] at hf
  exact least_nn hb.1 (by omega)
theorem ownM_ok {s : Sch} {e : Xpr} (hr : schE s = 0) (h : RigE s e) : ∀ p ∈ ownM s e, (0 ≤ p.col ∧ p.col < s.cols.length) ∧ 0 ≤ p.lev := by
  intro p hp
  unfold ownM at hp
  split at hp
  · split at hp
    · rename_i h1 h2
      simp only [List.mem_singleton] at hp
      subst hp
      rcases h.col (by simp only [usCol]; omega) with h | h
      · omega
      · have := isB_col h; exact ⟨⟨this.1, this.2.1⟩, exa_nn hr h⟩
    · cases hp
  · split at hp
    · rename_i h1 h2
      simp only [List.mem_singleton] at hp
      subst hp
      rcases h.col (by simp only [usCol]; omega) with h | h
      · omega
      · have := isB_col h; exact ⟨⟨this.1, this.2.1⟩, hist_nn hr h⟩
    · cases hp
set_option maxHeartbeats 8000000 in
theorem radd_call (s : Sch) (L : List Pk) (c : Cnd) (hn : s.cols.length ≤ 1000) : FCall Tryz.prog 86 [sA s, .sl 2 ((colP s L).map pkL), cndA c] (.sl 2 ((colP s (L ++ needS s c)).map pkL)) := by
  have h1 := rneeds_call s c
  have hok := need_ok (s := s) (c := c)
  have hra := fun L p => rais_call s L p hn
  have hnl := need_length s c
  generalize needS s c = R at *
  refine fcall_intro (n := 31) Tryz.func86 (by kernel_rfl) rfl rfl rfl rfl rfl (by intro t T h; cases h) (fun hrd E h0 => ?_)
  clear hrd
  repeat' ((first | refine call_i h1 ?_ |refine aops_go ?_|refine awp_go ?_|refine guard_tt ?_|refine guard_ff ?_|refine guard_tf ?_|refine guard_ft ?_|refine cond_t ?_|refine cond_f ?_|refine Z1 ?_|refine Z2 ?_|refine stp ?_|(refine And.intro ?_ ?_<;>intro h<;>try first|(exfalso;omega)|exact absurd rfl h)|refine Z3 ?_|refine Z4 ?_|intro el hel hbB|intro el hel|intro ex|refine Z5 ?_|(refine free_i ?_ ?_;exact ⟨by kernel_rfl,by decide⟩)|refine allI_c ?_ ?_|exact allI_n|refine allMP_c ?_ ?_|exact allMP_n|(refine many_step ?_ ?_ ?_;kernel_rfl;kernel_rfl)) <;> (try (conv => whnf)))
  refine loop_i (ι := Nat) (fun k => ⟨[(1, .sl 2 ((colP s (L ++ R.take k)).map pkL)), (7, .sl 2 (R.map pkL)), (8, .i k)], 2, []⟩) (fun k => k ≤ R.length) (fun k => R.length - k) 0 (Nat.zero_le _)
    (le_of h0 rfl ⟨(by rw [List.take_zero, List.append_nil]; rfl), rfl, rfl, trivial⟩ trivial rfl rfl rfl) (fun k hk => ?_)
  by_cases hlt : k < R.length
  · obtain ⟨p, hp⟩ : ∃ p, R[k]? = some p := ⟨_, List.getElem?_eq_getElem hlt⟩
    obtain ⟨⟨p1, p2⟩, p3⟩ := hok p (List.mem_of_getElem? hp)
    have hc := hra (L ++ R.take k) p p1 p2 p3
    rw [List.append_assoc, ← takec hp] at hc
    repeat' ((first | (refine each_knownm (x := p) hp (by omega) ?_) | refine call_i hc ?_ | (refine draw_q ?_ ?_; kernel_rfl) |refine aops_go ?_|refine awp_go ?_|refine guard_tt ?_|refine guard_ff ?_|refine guard_tf ?_|refine guard_ft ?_|refine cond_t ?_|refine cond_f ?_|refine Z1 ?_|refine Z2 ?_|refine stp ?_|(refine And.intro ?_ ?_<;>intro h<;>try first|(exfalso;omega)|exact absurd rfl h)|refine Z3 ?_|refine Z4 ?_|intro el hel hbB|intro el hel|intro ex|refine Z5 ?_|(refine free_i ?_ ?_;exact ⟨by kernel_rfl,by decide⟩)|refine allI_c ?_ ?_|exact allI_n|refine allMP_c ?_ ?_|exact allMP_n|(refine many_step ?_ ?_ ?_;kernel_rfl;kernel_rfl)) <;> (try (conv => whnf)))
    all_goals first
      | (exfalso; omega)
      | exact ⟨k + 1, by omega, by omega, le_of h0 rfl ⟨rfl, rfl, rfl, trivial⟩ trivial rfl rfl rfl⟩
  · obtain rfl : k = R.length := by omega
    rw [List.take_length]
    repeat' ((first|refine aops_go ?_|refine awp_go ?_|refine guard_tt ?_|refine guard_ff ?_|refine guard_tf ?_|refine guard_ft ?_|refine cond_t ?_|refine cond_f ?_|refine Z1 ?_|refine Z2 ?_|refine stp ?_|(refine And.intro ?_ ?_<;>intro h<;>try first|(exfalso;omega)|exact absurd rfl h)|refine Z3 ?_|refine Z4 ?_|intro el hel hbB|intro el hel|intro ex|refine Z5 ?_|(refine free_i ?_ ?_;exact ⟨by kernel_rfl,by decide⟩)|refine allI_c ?_ ?_|exact allI_n|refine allMP_c ?_ ?_|exact allMP_n|(refine many_step ?_ ?_ ?_;kernel_rfl;kernel_rfl)) <;> (try (conv => whnf)))
    all_goals first
      | (exfalso; omega)
      | exact ret_tmp rfl rfl
theorem rexact_call (s : Sch) (hd : Drawn s) (L : List Pk) (c : Int) (h : isB s c 3 = true) : FCall Tryz.prog 89 [sA s, .sl 2 ((colP s L).map pkL), .i c] (.sl 2 ((colP s (L ++ [exaS s c])).map pkL)) := by
  have hn := hd.lens
  have hb := isB_col h
  have h1 := rfinest_call s c
  have h2 := rleast_call s c (finestS s c) hd
  have h3 := rais_call s L (exaS s c) (by omega) hb.1 hb.2.1 (exa_nn hd.ok h)
  refine fcall_intro (n := 16) Tryz.func89 (by kernel_rfl) rfl rfl rfl rfl rfl (by intro t T h; cases h) (fun hrd E h0 => ?_)
  clear hrd
  repeat' ((first | refine call_i h1 ?_ | refine call_i h2 ?_ | refine call_i h3 ?_ | (refine draw_q ?_ ?_; kernel_rfl) |refine aops_go ?_|refine awp_go ?_|refine guard_tt ?_|refine guard_ff ?_|refine guard_tf ?_|refine guard_ft ?_|refine cond_t ?_|refine cond_f ?_|refine Z1 ?_|refine Z2 ?_|refine stp ?_|(refine And.intro ?_ ?_<;>intro h<;>try first|(exfalso;omega)|exact absurd rfl h)|refine Z3 ?_|refine Z4 ?_|intro el hel hbB|intro el hel|intro ex|refine Z5 ?_|(refine free_i ?_ ?_;exact ⟨by kernel_rfl,by decide⟩)|refine allI_c ?_ ?_|exact allI_n|refine allMP_c ?_ ?_|exact allMP_n|(refine many_step ?_ ?_ ?_;kernel_rfl;kernel_rfl)) <;> (try (conv => whnf)))
  all_goals first
    | exact ret_tmp rfl rfl
set_option maxHeartbeats 4000000 in
theorem rlevel17_call (s : Sch) (col width : Int) {c : Col} (h0c : 0 ≤ col) (hc : s.cols[col.toNat]? = some c) (hw : (c.widths.any fun x => decide (x = width)) = true) : FCall Tryz.prog 90 [sA s, .i col, .i width] (.i (levO (colAt s col).widths width)) := by
  rw [colAt_get hc]
  unfold levO
  have hpos : 0 ≤ idxP (fun x => decide (x = width)) c.widths 0 := by
    have := idxP_any (fun x => decide (x = width)) c.widths 0 (by omega)
    rw [hw] at this
    exact of_decide_eq_true this
  rw [if_pos hpos]
  refine fcall_intro (n := 33) Tryz.func90 (by kernel_rfl) rfl rfl rfl rfl rfl (by intro t T h; cases h) (fun hrd E h0 => ?_)
  have hlen : c.widths.length ≤ 9223372036854775807 := by
    have := ((((hrd (sA s) (by simp)).agg (.sl 7 (s.cols.map colL)) (by simp))).elem (colL c) (List.mem_map.2 ⟨c, List.mem_of_getElem? hc, rfl⟩) (.sl 1 (c.widths.map wA)) (by simp)).sl
    simpa using this
  clear hrd
  repeat' ((first | (refine each_knownm (x := c) hc (by omega) ?_) |refine aops_go ?_|refine awp_go ?_|refine guard_tt ?_|refine guard_ff ?_|refine guard_tf ?_|refine guard_ft ?_|refine cond_t ?_|refine cond_f ?_|refine Z1 ?_|refine Z2 ?_|refine stp ?_|(refine And.intro ?_ ?_<;>intro h<;>try first|(exfalso;omega)|exact absurd rfl h)|refine Z3 ?_|refine Z4 ?_|intro el hel hbB|intro el hel|intro ex|refine Z5 ?_|(refine free_i ?_ ?_;exact ⟨by kernel_rfl,by decide⟩)|refine allI_c ?_ ?_|exact allI_n|refine allMP_c ?_ ?_|exact allMP_n|(refine many_step ?_ ?_ ?_;kernel_rfl;kernel_rfl)) <;> (try (conv => whnf)))
  refine loop_i (ι := Nat) (fun k => ⟨[(2, .i width), (7, .ref 1 0), (8, .i k)], 2, [(1, some (.box (colL c)))]⟩) (fun k => k ≤ c.widths.length ∧ idxP (fun x => decide (x = width)) c.widths 0 = idxP (fun x => decide (x = width)) (c.widths.drop k) k) (fun k => c.widths.length - k) 0 ⟨Nat.zero_le _, rfl⟩
    (le_of h0 rfl ⟨rfl, rfl, rfl, trivial⟩ ⟨rfl, trivial⟩ rfl rfl rfl) (fun k hI => ?_)
  obtain ⟨hk, hI⟩ := hI
  repeat' ((first|refine aops_go ?_|refine awp_go ?_|refine guard_tt ?_|refine guard_ff ?_|refine guard_tf ?_|refine guard_ft ?_|refine cond_t ?_|refine cond_f ?_|refine Z1 ?_|refine Z2 ?_|refine stp ?_|(refine And.intro ?_ ?_<;>intro h<;>try first|(exfalso;omega)|exact absurd rfl h)|refine Z3 ?_|refine Z4 ?_|intro el hel hbB|intro el hel|intro ex|refine Z5 ?_|(refine free_i ?_ ?_;exact ⟨by kernel_rfl,by decide⟩)|refine allI_c ?_ ?_|exact allI_n|refine allMP_c ?_ ?_|exact allMP_n|(refine many_step ?_ ?_ ?_;kernel_rfl;kernel_rfl)) <;> (try (conv => whnf)))
  all_goals first
    | exact ⟨k + 1, ⟨by omega, by rw [hI, dropc hel, idxP, if_neg (by rw [decide_eq_true_iff]; omega)]; rfl⟩, by omega, le_of h0 rfl ⟨rfl, rfl, rfl, trivial⟩ ⟨rfl, trivial⟩ rfl rfl rfl⟩
    | (have e1 : idxP (fun x => decide (x = width)) c.widths 0 = k := by rw [hI, dropc hel, idxP, if_pos (by rw [decide_eq_true_iff]; omega)]
       exact ret_tmp rfl (congrArg AV.i (by rw [e1])))
    | (exfalso
       have e1 : idxP (fun x => decide (x = width)) c.widths 0 = -1 := by rw [hI, show k = c.widths.length by omega, List.drop_length]; rfl
       omega)
theorem RigE.hist {s : Sch} {e : Xpr} (h : RigE s e) (h13 : e.op = 13) : isB s e.col 3 = true ∧ ((colAt s e.col).widths.any fun x => decide (x = e.num)) = true := by
  have hp := h.par
  unfold parB at hp
  rw [if_neg (by omega), if_neg (by omega), if_neg (by omega), if_neg (by omega), if_neg (by omega), if_neg (by omega), if_pos h13] at hp
  simpa only [Bool.and_eq_true] using hp
theorem allN_perm {s : Sch} {e : Xpr} : pksR (lvM (((needS s e.cnd ++ needS s e.evt) ++ e.dims.map (dimS s) ++ ownM s e ++ e.cols.map (exaS s)) ++ e.kids.flatMap (nedS s))) 0 s.cols.length = nedS s e := by
  rw [nedS_eq]
  refine pksR_congr fun i _ _ => ?_
  unfold allN ownS
  simp only [lvM_app]
  omega
set_option maxHeartbeats 16000000 in
theorem rneeds17_call (s : Sch) (hdr : Drawn s) (e : Xpr) : FCall Tryz.prog 46 [sA s, xprA e] (.sl 2 ((neeS s e).map pkL)) := by
  refine xpr_ind (p := fun e => FCall Tryz.prog 46 [sA s, xprA e] (.sl 2 ((neeS s e).map pkL))) (fun e ih => ?_) e
  have hr := hdr.ok
  have hln := hdr.lens
  have h1 := rright_call s e
  unfold neeS
  by_cases hx : rigX s e = true
  case neg =>
    have hx : rigX s e = false := by simpa using hx
    rw [hx] at h1 ⊢
    refine fcall_intro (n := 139) Tryz.func46 (by kernel_rfl) rfl rfl rfl rfl rfl (by intro t T h; cases h) (fun hrd E h0 => ?_)
    clear hrd
    repeat' ((first | refine call_i h1 ?_ |refine aops_go ?_|refine awp_go ?_|refine guard_tt ?_|refine guard_ff ?_|refine guard_tf ?_|refine guard_ft ?_|refine cond_t ?_|refine cond_f ?_|refine Z1 ?_|refine Z2 ?_|refine stp ?_|(refine And.intro ?_ ?_<;>intro h<;>try first|(exfalso;omega)|exact absurd rfl h)|refine Z3 ?_|refine Z4 ?_|intro el hel hbB|intro el hel|intro ex|refine Z5 ?_|(refine free_i ?_ ?_;exact ⟨by kernel_rfl,by decide⟩)|refine allI_c ?_ ?_|exact allI_n|refine allMP_c ?_ ?_|exact allMP_n|(refine many_step ?_ ?_ ?_;kernel_rfl;kernel_rfl)) <;> (try (conv => whnf)))
    all_goals first
      | exact ret_nil (sz := 2) rfl rfl
  have hg : RigE s e := rig_parts (by unfold rigX at hx; simp only [Bool.and_eq_true] at hx; exact hx.2)
  rw [hx] at h1 ⊢
  rw [if_pos rfl]
  have hkr : ∀ k ∈ e.kids, FCall Tryz.prog 46 [sA s, xprA k] (.sl 2 ((nedS s k).map pkL)) := fun k hk => by
    have h := ih k hk
    have hk2 : rigX s k = true := by unfold rigX; rw [decide_eq_true hr, (hg.kid k hk).2]; rfl
    unfold neeS at h
    rwa [if_pos hk2] at h
  clear ih
  obtain ⟨hld, hlc, hlk⟩ := hg.lens
  have hop := hg.op
  have hcol := hg.col
  have hhist := hg.hist
  have htrm := hg.trm
  have hdim : ∀ d ∈ e.dims, (0 ≤ (dimS s d).col ∧ (dimS s d).col < s.cols.length) ∧ 0 ≤ (dimS s d).lev := fun d hd => dim_nn hr (hg.dim d hd)
  have hown := ownM_ok hr hg
  have h2 := fcall_nl (radd_call s [] e.cnd (by omega)) (l' := [sA s, .v (.slice none 0 0), cndA e.cnd]) ⟨.refl _, by rw [colP, lvM_nil, pksR_none]; exact .nil 2, .refl _, trivial⟩
  have h3 := radd_call s ([] ++ needS s e.cnd) e.evt (by omega)
  rw [List.nil_append] at h2 h3
  have hra := fun L p => rais_call s L p (by omega)
  have hls := fun c l => rleast_call s c l hdr
  have hex := fun L c h => rexact_call s hdr L c h
  rw [← allN_perm]
  show FCall _ _ _ (.sl 2 ((colP s _).map pkL))
  generalize needS s e.cnd ++ needS s e.evt = N1 at *
  rw [xprA_eq] at h1 ⊢
  refine fcall_intro (n := 139) Tryz.func46 (by kernel_rfl) rfl rfl rfl rfl rfl (by intro t T h; cases h) (fun hrd E h0 => ?_)
  clear hrd
  repeat' ((first | refine call_i h1 ?_ | refine call_i h2 ?_ | refine call_i h3 ?_ |refine aops_go ?_|refine awp_go ?_|refine guard_tt ?_|refine guard_ff ?_|refine guard_tf ?_|refine guard_ft ?_|refine cond_t ?_|refine cond_f ?_|refine Z1 ?_|refine Z2 ?_|refine stp ?_|(refine And.intro ?_ ?_<;>intro h<;>try first|(exfalso;omega)|exact absurd rfl h)|refine Z3 ?_|refine Z4 ?_|intro el hel hbB|intro el hel|intro ex|refine Z5 ?_|(refine free_i ?_ ?_;exact ⟨by kernel_rfl,by decide⟩)|refine allI_c ?_ ?_|exact allI_n|refine allMP_c ?_ ?_|exact allMP_n|(refine many_step ?_ ?_ ?_;kernel_rfl;kernel_rfl)) <;> (try (conv => whnf)))
  refine loop_i (ι := Nat) (fun k => ⟨[(2, .iptr (sL s)), (3, .iptr (xprY e)), (5, .sl 2 ((colP s (N1 ++ (e.dims.take k).map (dimS s))).map pkL)), (6, .i k)], 2, []⟩) (fun k => k ≤ e.dims.length) (fun k => e.dims.length - k) 0 (Nat.zero_le _)
    (le_of h0 rfl ⟨rfl, rfl, (by rw [List.take_zero, List.map_nil, List.append_nil]; rfl), rfl, trivial⟩ trivial rfl rfl rfl) (fun k hk => ?_)
  by_cases hlt : k < e.dims.length
  · obtain ⟨d, hd⟩ : ∃ d, e.dims[k]? = some d := ⟨_, List.getElem?_eq_getElem hlt⟩
    obtain ⟨⟨p1, p2⟩, p3⟩ := hdim d (List.mem_of_getElem? hd)
    have hc := hra (N1 ++ (e.dims.take k).map (dimS s)) (dimS s d) p1 p2 p3
    rw [List.append_assoc, show (e.dims.take k).map (dimS s) ++ [dimS s d] = (e.dims.take (k + 1)).map (dimS s) by rw [takec hd, List.map_append]; rfl] at hc
    have hl := hls d.col d.lev
    repeat' ((first | (refine each_knownm (x := d) hd (by omega) ?_) | refine call_i hl ?_ | refine call_i hc ?_ | (refine draw_q ?_ ?_; kernel_rfl) |refine aops_go ?_|refine awp_go ?_|refine guard_tt ?_|refine guard_ff ?_|refine guard_tf ?_|refine guard_ft ?_|refine cond_t ?_|refine cond_f ?_|refine Z1 ?_|refine Z2 ?_|refine stp ?_|(refine And.intro ?_ ?_<;>intro h<;>try first|(exfalso;omega)|exact absurd rfl h)|refine Z3 ?_|refine Z4 ?_|intro el hel hbB|intro el hel|intro ex|refine Z5 ?_|(refine free_i ?_ ?_;exact ⟨by kernel_rfl,by decide⟩)|refine allI_c ?_ ?_|exact allI_n|refine allMP_c ?_ ?_|exact allMP_n|(refine many_step ?_ ?_ ?_;kernel_rfl;kernel_rfl)) <;> (try (conv => whnf)))
    all_goals first
      | (exfalso; omega)
      | exact ⟨k + 1, by omega, by omega, le_of h0 rfl ⟨rfl, rfl, rfl, rfl, trivial⟩ trivial rfl rfl rfl⟩
  obtain rfl : k = e.dims.length := by omega
  rw [List.take_length]
  have hM1 : (e.op = 4 ∨ e.op = 5 ∨ e.op = 11 ∨ e.op = 12 ∨ e.op = 14) → isB s e.col 3 = true ∧ ownM s e = [exaS s e.col] := fun h => by
    rcases hcol (by simp only [usCol]; omega) with h' | h'
    · omega
    · exact ⟨h', by unfold ownM; rw [if_pos (by omega), if_pos (by have := mea_pos hr h'; omega)]⟩
  have hM2 : e.op = 10 → 0 ≤ e.col → isB s e.col 3 = true ∧ ownM s e = [exaS s e.col] := fun h h2 => by
    rcases hcol (by simp only [usCol]; omega) with h' | h'
    · omega
    · exact ⟨h', by unfold ownM; rw [if_pos (by omega), if_pos (by have := mea_pos hr h'; omega)]⟩
  have hM3 : e.op = 10 → ¬ 0 ≤ e.col → ownM s e = [] := fun h h2 => by unfold ownM; rw [if_pos (by omega), if_neg (by omega)]
  have hM4 : e.op = 13 → ownM s e = [⟨e.col, leastS s e.col (levO (colAt s e.col).widths e.num)⟩] := fun h => by unfold ownM; rw [if_neg (by omega), if_pos h]
  have hM5 : ¬ (e.op = 4 ∨ e.op = 5 ∨ e.op = 11 ∨ e.op = 12 ∨ e.op = 14) → ¬ e.op = 10 → ¬ e.op = 13 → ownM s e = [] := fun h1 h2 h3 => by unfold ownM; rw [if_neg (by omega), if_neg h3]
  have hlv : e.op = 13 → FCall Tryz.prog 90 [sA s, .i e.col, .i e.num] (.i (levO (colAt s e.col).widths e.num)) := fun h => by
    obtain ⟨q1, q2⟩ := hhist h
    obtain ⟨q3, _, c, q4, _⟩ := isB_col q1
    exact rlevel17_call s e.col e.num q3 q4 (by rw [← colAt_get q4]; exact q2)
  have hl2 := hls e.col (levO (colAt s e.col).widths e.num)
  generalize hA : N1 ++ e.dims.map (dimS s) = A at *
  have hr13 : e.op = 13 → FCall Tryz.prog 87 [.sl 2 ((colP s A).map pkL), .i e.col, .i (leastS s e.col (levO (colAt s e.col).widths e.num))] (.sl 2 ((colP s (A ++ ownM s e)).map pkL)) := fun h => by
    have h4 := hM4 h
    obtain ⟨⟨q1, q2⟩, q3⟩ := hown ⟨e.col, leastS s e.col (levO (colAt s e.col).widths e.num)⟩ (by rw [h4]; simp)
    rw [h4]
    exact hra A ⟨e.col, leastS s e.col (levO (colAt s e.col).widths e.num)⟩ q1 q2 q3
  have he1 : (e.op = 4 ∨ e.op = 5 ∨ e.op = 11 ∨ e.op = 12 ∨ e.op = 14) → FCall Tryz.prog 89 [sA s, .sl 2 ((colP s A).map pkL), .i e.col] (.sl 2 ((colP s (A ++ ownM s e)).map pkL)) := fun h => by
    obtain ⟨q1, q2⟩ := hM1 h
    rw [q2]; exact hex A e.col q1
  have he2 : e.op = 10 → 0 ≤ e.col → FCall Tryz.prog 89 [sA s, .sl 2 ((colP s A).map pkL), .i e.col] (.sl 2 ((colP s (A ++ ownM s e)).map pkL)) := fun h h2 => by
    obtain ⟨q1, q2⟩ := hM2 h h2
    rw [q2]; exact hex A e.col q1
  have hz3 : e.op = 10 → ¬ 0 ≤ e.col → colP s A = colP s (A ++ ownM s e) := fun h h2 => by rw [hM3 h h2, List.append_nil]
  have hz5 : ¬ (e.op = 4 ∨ e.op = 5 ∨ e.op = 11 ∨ e.op = 12 ∨ e.op = 14) → ¬ e.op = 10 → ¬ e.op = 13 → colP s A = colP s (A ++ ownM s e) := fun h1 h2 h3 => by rw [hM5 h1 h2 h3, List.append_nil]
  clear hM1 hM2 hM3 hM4 hM5 hcol hhist hdim hown
  generalize A ++ ownM s e = B at *
  repeat' ((first | (refine call_i (he1 (by omega)) ?_) | (refine call_i (he2 (by assumption) (by assumption)) ?_) | (refine call_i (hlv (by assumption)) ?_) | refine call_i hl2 ?_ | (refine call_i (hr13 (by assumption)) ?_) | (refine draw_q ?_ ?_; kernel_rfl) |refine aops_go ?_|refine awp_go ?_|refine guard_tt ?_|refine guard_ff ?_|refine guard_tf ?_|refine guard_ft ?_|refine cond_t ?_|refine cond_f ?_|refine Z1 ?_|refine Z2 ?_|refine stp ?_|(refine And.intro ?_ ?_<;>intro h<;>try first|(exfalso;omega)|exact absurd rfl h)|refine Z3 ?_|refine Z4 ?_|intro el hel hbB|intro el hel|intro ex|refine Z5 ?_|(refine free_i ?_ ?_;exact ⟨by kernel_rfl,by decide⟩)|refine allI_c ?_ ?_|exact allI_n|refine allMP_c ?_ ?_|exact allMP_n|(refine many_step ?_ ?_ ?_;kernel_rfl;kernel_rfl)) <;> (try (conv => whnf)))
  all_goals first
    | (exfalso; omega)
    | skip
  all_goals
    try rw [hz3 (by assumption) (by assumption)]
    try rw [hz5 (by omega) (by assumption) (by assumption)]
  all_goals
    clear he1 he2 hlv hr13 hz3 hz5 hl2 h1 h2 h3
    refine loop_i (ι := Nat) (fun k => ⟨[(2, .iptr (sL s)), (3, .iptr (xprY e)), (5, .sl 2 ((colP s (B ++ (e.cols.take k).map (exaS s))).map pkL)), (7, .i k)], 2, []⟩) (fun k => k ≤ e.cols.length) (fun k => e.cols.length - k) 0 (Nat.zero_le _)
      (le_of h0 rfl ⟨rfl, rfl, (by rw [List.take_zero, List.map_nil, List.append_nil]; rfl), rfl, trivial⟩ trivial rfl rfl rfl) (fun k hk => ?_)
    by_cases hlt2 : k < e.cols.length
    · obtain ⟨c, hc⟩ : ∃ c, e.cols[k]? = some c := ⟨_, List.getElem?_eq_getElem hlt2⟩
      have hcc := hex (B ++ (e.cols.take k).map (exaS s)) c (htrm c (List.mem_of_getElem? hc))
      rw [List.append_assoc, show (e.cols.take k).map (exaS s) ++ [exaS s c] = (e.cols.take (k + 1)).map (exaS s) by rw [takec hc, List.map_append]; rfl] at hcc
      repeat' ((first | (refine each_knownm (x := c) hc (by omega) ?_) | refine call_i hcc ?_ | (refine draw_q ?_ ?_; kernel_rfl) |refine aops_go ?_|refine awp_go ?_|refine guard_tt ?_|refine guard_ff ?_|refine guard_tf ?_|refine guard_ft ?_|refine cond_t ?_|refine cond_f ?_|refine Z1 ?_|refine Z2 ?_|refine stp ?_|(refine And.intro ?_ ?_<;>intro h<;>try first|(exfalso;omega)|exact absurd rfl h)|refine Z3 ?_|refine Z4 ?_|intro el hel hbB|intro el hel|intro ex|refine Z5 ?_|(refine free_i ?_ ?_;exact ⟨by kernel_rfl,by decide⟩)|refine allI_c ?_ ?_|exact allI_n|refine allMP_c ?_ ?_|exact allMP_n|(refine many_step ?_ ?_ ?_;kernel_rfl;kernel_rfl)) <;> (try (conv => whnf)))
      all_goals first
        | (exfalso; omega)
        | exact ⟨k + 1, by omega, by omega, le_of h0 rfl ⟨rfl, rfl, rfl, rfl, trivial⟩ trivial rfl rfl rfl⟩
    obtain rfl : k = e.cols.length := by omega
    rw [List.take_length]
    generalize B ++ e.cols.map (exaS s) = D at *
    repeat' ((first|refine aops_go ?_|refine awp_go ?_|refine guard_tt ?_|refine guard_ff ?_|refine guard_tf ?_|refine guard_ft ?_|refine cond_t ?_|refine cond_f ?_|refine Z1 ?_|refine Z2 ?_|refine stp ?_|(refine And.intro ?_ ?_<;>intro h<;>try first|(exfalso;omega)|exact absurd rfl h)|refine Z3 ?_|refine Z4 ?_|intro el hel hbB|intro el hel|intro ex|refine Z5 ?_|(refine free_i ?_ ?_;exact ⟨by kernel_rfl,by decide⟩)|refine allI_c ?_ ?_|exact allI_n|refine allMP_c ?_ ?_|exact allMP_n|(refine many_step ?_ ?_ ?_;kernel_rfl;kernel_rfl)) <;> (try (conv => whnf)))
    all_goals first
      | (exfalso; omega)
      | skip
    refine loop_i (ι := Nat) (fun k => ⟨[(2, .iptr (sL s)), (3, .iptr (xprY e)), (5, .sl 2 ((colP s (D ++ (e.kids.take k).flatMap (nedS s))).map pkL)), (8, .i k)], 2, []⟩) (fun k => k ≤ e.kids.length) (fun k => e.kids.length - k) 0 (Nat.zero_le _)
      (le_of h0 rfl ⟨rfl, rfl, (by rw [List.take_zero, List.flatMap_nil, List.append_nil]; rfl), rfl, trivial⟩ trivial rfl rfl rfl) (fun k hk => ?_)
    by_cases hlt3 : k < e.kids.length
    · obtain ⟨x, hx⟩ : ∃ x, e.kids[k]? = some x := ⟨_, List.getElem?_eq_getElem hlt3⟩
      have hq := hkr x (List.mem_of_getElem? hx)
      have hfx : (e.kids.take (k + 1)).flatMap (nedS s) = (e.kids.take k).flatMap (nedS s) ++ nedS s x := by rw [takec hx, List.flatMap_append]; simp
      have hnk := ned_ok (s := s) (e := x)
      have hnl := ned_len (s := s) (e := x)
      generalize (e.kids.take k).flatMap (nedS s) = F at *
      generalize nedS s x = R at *
      repeat' ((first | (refine each_knownm (x := x) hx (by omega) ?_) | refine call_i hq ?_ | (refine draw_q ?_ ?_; kernel_rfl) |refine aops_go ?_|refine awp_go ?_|refine guard_tt ?_|refine guard_ff ?_|refine guard_tf ?_|refine guard_ft ?_|refine cond_t ?_|refine cond_f ?_|refine Z1 ?_|refine Z2 ?_|refine stp ?_|(refine And.intro ?_ ?_<;>intro h<;>try first|(exfalso;omega)|exact absurd rfl h)|refine Z3 ?_|refine Z4 ?_|intro el hel hbB|intro el hel|intro ex|refine Z5 ?_|(refine free_i ?_ ?_;exact ⟨by kernel_rfl,by decide⟩)|refine allI_c ?_ ?_|exact allI_n|refine allMP_c ?_ ?_|exact allMP_n|(refine many_step ?_ ?_ ?_;kernel_rfl;kernel_rfl)) <;> (try (conv => whnf)))
      all_goals first
        | (exfalso; omega)
        | skip
      refine loop_i (ι := Nat) (fun j => ⟨[(2, .iptr (sL s)), (3, .iptr (xprY e)), (5, .sl 2 ((colP s (D ++ (F ++ R.take j))).map pkL)), (8, .i k), (9, .sl 2 (R.map pkL)), (10, .i j)], 2, []⟩) (fun j => j ≤ R.length) (fun j => R.length - j) 0 (Nat.zero_le _)
        (le_of h0 rfl ⟨rfl, rfl, (by rw [List.take_zero, List.append_nil]; rfl), rfl, rfl, rfl, trivial⟩ trivial rfl rfl rfl) (fun j hj => ?_)
      by_cases hlt4 : j < R.length
      · obtain ⟨p, hp⟩ : ∃ p, R[j]? = some p := ⟨_, List.getElem?_eq_getElem hlt4⟩
        obtain ⟨⟨p1, p2⟩, p3⟩ := hnk p (List.mem_of_getElem? hp)
        have hcc := hra (D ++ (F ++ R.take j)) p p1 p2 p3
        rw [List.append_assoc, List.append_assoc, ← takec hp] at hcc
        repeat' ((first | (refine each_knownm (x := p) hp (by omega) ?_) | refine call_i hcc ?_ | (refine draw_q ?_ ?_; kernel_rfl) |refine aops_go ?_|refine awp_go ?_|refine guard_tt ?_|refine guard_ff ?_|refine guard_tf ?_|refine guard_ft ?_|refine cond_t ?_|refine cond_f ?_|refine Z1 ?_|refine Z2 ?_|refine stp ?_|(refine And.intro ?_ ?_<;>intro h<;>try first|(exfalso;omega)|exact absurd rfl h)|refine Z3 ?_|refine Z4 ?_|intro el hel hbB|intro el hel|intro ex|refine Z5 ?_|(refine free_i ?_ ?_;exact ⟨by kernel_rfl,by decide⟩)|refine allI_c ?_ ?_|exact allI_n|refine allMP_c ?_ ?_|exact allMP_n|(refine many_step ?_ ?_ ?_;kernel_rfl;kernel_rfl)) <;> (try (conv => whnf)))
        all_goals first
          | (exfalso; omega)
          | exact ⟨j + 1, by omega, by omega, le_of h0 rfl ⟨rfl, rfl, rfl, rfl, rfl, rfl, trivial⟩ trivial rfl rfl rfl⟩
      · obtain rfl : j = R.length := by omega
        rw [List.take_length, ← hfx]
        repeat' ((first|refine aops_go ?_|refine awp_go ?_|refine guard_tt ?_|refine guard_ff ?_|refine guard_tf ?_|refine guard_ft ?_|refine cond_t ?_|refine cond_f ?_|refine Z1 ?_|refine Z2 ?_|refine stp ?_|(refine And.intro ?_ ?_<;>intro h<;>try first|(exfalso;omega)|exact absurd rfl h)|refine Z3 ?_|refine Z4 ?_|intro el hel hbB|intro el hel|intro ex|refine Z5 ?_|(refine free_i ?_ ?_;exact ⟨by kernel_rfl,by decide⟩)|refine allI_c ?_ ?_|exact allI_n|refine allMP_c ?_ ?_|exact allMP_n|(refine many_step ?_ ?_ ?_;kernel_rfl;kernel_rfl)) <;> (try (conv => whnf)))
        all_goals first
          | (exfalso; omega)
          | exact ⟨k + 1, by omega, by omega, le_of h0 rfl ⟨rfl, rfl, rfl, rfl, trivial⟩ trivial rfl rfl rfl⟩
    obtain rfl : k = e.kids.length := by omega
    rw [List.take_length]
    repeat' ((first|refine aops_go ?_|refine awp_go ?_|refine guard_tt ?_|refine guard_ff ?_|refine guard_tf ?_|refine guard_ft ?_|refine cond_t ?_|refine cond_f ?_|refine Z1 ?_|refine Z2 ?_|refine stp ?_|(refine And.intro ?_ ?_<;>intro h<;>try first|(exfalso;omega)|exact absurd rfl h)|refine Z3 ?_|refine Z4 ?_|intro el hel hbB|intro el hel|intro ex|refine Z5 ?_|(refine free_i ?_ ?_;exact ⟨by kernel_rfl,by decide⟩)|refine allI_c ?_ ?_|exact allI_n|refine allMP_c ?_ ?_|exact allMP_n|(refine many_step ?_ ?_ ?_;kernel_rfl;kernel_rfl)) <;> (try (conv => whnf)))
    all_goals first
      | (exfalso; omega)
      | exact ret_tmp rfl rfl
end Go.Proofs.YtepdcljecfibpaaGreatDoor
