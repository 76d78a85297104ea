/- Chapter 17: what expressions need, and their kinds, in plain terms. Chapter 17: what an expression needs, without its kids. Chapter 17: picks are merged; what a right expression needs. -/
import Derived.Test.YtepdcljecfibpaaGreatDoorQF1
import Derived.Test.YtepdcljecfibpaaGreatDoorQC3
import Derived.Test.YtepdcljecfibpaaGreatDoorQC1
import Derived.Test.YtepdcljecfibpaaGreatDoorQF7
import Derived.Test.YtepdcljecfibpaaGreatDoorQB8
import Derived.Test.YtepdcljecfibpaaGreatDoorQCm2
import Derived.Test.YtepdcljecfibpaaGreatDoorQD2
namespace Go.Proofs.YtepdcljecfibpaaGreatDoor
open Go Go.Av
attribute [local irreducible] AWp AOps AAny MAny DQ retQ retG St.le FCall GCall
set_option linter.unusedVariables false
set_option linter.unnecessarySimpa false
set_option linter.unusedSimpArgs false
set_option maxRecDepth 100000
def lvM (l : List Pk) (i : Nat) : Int := l.foldl (fun (m : Int) (p : Pk) => if p.col = (i : Int) then max m p.lev else m) 0
theorem lvM_nil : lvM [] = fun _ => 0 := rfl
theorem lvM_snoc (l : List Pk) (p : Pk) : lvM (l ++ [p]) = upd (lvM l) p.col p.lev := by
  funext i
  unfold lvM upd
  rw [List.foldl_append]
  rfl
theorem lvM_from (i : Nat) : ∀ (l : List Pk) (m : Int), 0 ≤ m → l.foldl (fun (m : Int) (p : Pk) => if p.col = (i : Int) then max m p.lev else m) m = max m (lvM l i) := by
  intro l
  induction l with
  | nil => intro m h; unfold lvM; simp only [List.foldl_nil]; omega
  | cons p r ih =>
    intro m h
    unfold lvM
    rw [List.foldl_cons, List.foldl_cons]
    split
    · rw [ih _ (by omega), ih _ (by omega)]; omega
    · rw [ih _ h, ih 0 (Int.le_refl _)]; omega
theorem lvM_nn (l : List Pk) (i : Nat) : 0 ≤ lvM l i := by
  have := lvM_from i l 0 (Int.le_refl _)
  have h : lvM l i = l.foldl (fun (m : Int) (p : Pk) => if p.col = (i : Int) then max m p.lev else m) 0 := rfl
  omega
theorem lvM_app (a b : List Pk) (i : Nat) : lvM (a ++ b) i = max (lvM a i) (lvM b i) := by
  have h : lvM (a ++ b) i = b.foldl (fun (m : Int) (p : Pk) => if p.col = (i : Int) then max m p.lev else m) (lvM a i) := by
    unfold lvM; rw [List.foldl_append]
  rw [h, lvM_from i b _ (lvM_nn a i)]
theorem lvM_one (p : Pk) (i : Nat) : lvM [p] i = if p.col = (i : Int) then max 0 p.lev else 0 := rfl
def lastC (l : List Pk) : Int := l.foldl (fun (m : Int) (p : Pk) => max m p.col) 0
theorem lastC_snoc (l : List Pk) (p : Pk) : lastC (l ++ [p]) = max (lastC l) p.col := by unfold lastC; rw [List.foldl_append]; rfl
theorem lastC_from : ∀ (l : List Pk) (m : Int), m ≤ l.foldl (fun (m : Int) (p : Pk) => max m p.col) m ∧ ∀ p ∈ l, p.col ≤ l.foldl (fun (m : Int) (p : Pk) => max m p.col) m := by
  intro l
  induction l with
  | nil => intro m; exact ⟨Int.le_refl _, fun p h => by cases h⟩
  | cons p r ih =>
    intro m
    rw [List.foldl_cons]
    obtain ⟨h1, h2⟩ := ih (max m p.col)
    refine ⟨by omega, fun q hq => ?_⟩
    rcases List.mem_cons.1 hq with rfl | hq
    · omega
    · exact h2 q hq
theorem lastC_ge {l : List Pk} : 0 ≤ lastC l ∧ ∀ p ∈ l, p.col ≤ lastC l := lastC_from l 0
theorem lastC_lt {n : Int} (hn : 0 < n) : ∀ {l : List Pk}, (∀ p ∈ l, p.col < n) → lastC l < n := by
  have key : ∀ (l : List Pk) (m : Int), m < n → (∀ p ∈ l, p.col < n) → l.foldl (fun (m : Int) (p : Pk) => max m p.col) m < n := by
    intro l
    induction l with
    | nil => intro m h _; exact h
    | cons p r ih =>
      intro m h hl
      rw [List.foldl_cons]
      exact ih _ (by have := hl p (by simp); omega) fun q hq => hl q (by simp [hq])
  exact fun {l} h => key l 0 hn h
theorem lvM_zero {l : List Pk} {i : Nat} (h : ∀ p ∈ l, p.col ≠ (i : Int)) : lvM l i = 0 := by
  induction l with
  | nil => rfl
  | cons p r ih =>
    have e : lvM (p :: r) i = max (lvM [p] i) (lvM r i) := lvM_app [p] r i
    rw [e, lvM_one, if_neg (h p (by simp)), ih fun q hq => h q (by simp [hq])]; rfl
theorem pksR_ext (lv : Nat → Int) : ∀ (n m lo : Nat), n ≤ m → (∀ i, lo + n ≤ i → lv i = 0) → pksR lv lo m = pksR lv lo n
  | 0, m, lo, _, h => by
    induction m generalizing lo with
    | zero => rfl
    | succ m ih =>
      rw [pksR_succ, if_neg (by rw [h lo (by omega)]; omega), ih (lo + 1) (by omega) fun i hi => h i (by omega)]
      rfl
  | n + 1, 0, lo, hn, _ => by omega
  | n + 1, m + 1, lo, hn, h => by
    rw [pksR_succ, pksR_succ, pksR_ext lv n m (lo + 1) (by omega) fun i hi => h i (by omega)]
def mrgS (l : List Pk) : List Pk := pksR (lvM l) 0 (lastC l + 1).toNat
theorem mrg_eq {l : List Pk} {n : Nat} (hn : 0 < n) (h : ∀ p ∈ l, 0 ≤ p.col ∧ p.col < n) : mrgS l = pksR (lvM l) 0 n := by
  have h1 := lastC_lt (n := n) (l := l) (by omega) fun p hp => (h p hp).2
  have h2 := lastC_ge (l := l)
  unfold mrgS
  rw [pksR_ext (lvM l) (lastC l + 1).toNat n 0 (by omega) fun i hi => lvM_zero fun p hp => by have := h2.2 p hp; omega]
abbrev exaS (s : Sch) (c : Int) : Pk := ⟨c, leastS s c (finestS s c)⟩
abbrev dimS (s : Sch) (d : Pk) : Pk := ⟨d.col, leastS s d.col d.lev⟩
def levO (ws : List Int) (width : Int) : Int := if 0 ≤ idxP (fun x => decide (x = width)) ws 0 then ws.length - idxP (fun x => decide (x = width)) ws 0 else 0
def ownM (s : Sch) (e : Xpr) : List Pk :=
  if e.op = 4 ∨ e.op = 5 ∨ e.op = 10 ∨ e.op = 11 ∨ e.op = 12 ∨ e.op = 14 then (if 0 < e.col then [exaS s e.col] else [])
  else if e.op = 13 then [⟨e.col, leastS s e.col (levO (colAt s e.col).widths e.num)⟩] else []
def ownS (s : Sch) (e : Xpr) : List Pk := e.dims.map (dimS s) ++ ownM s e ++ e.cols.map (exaS s)
mutual
def nedS (s : Sch) : Xpr → List Pk
  | .mk o n nm c cs ds cd ev ks => pksR (lvM (ownS s (.mk o n nm c cs ds cd ev ks) ++ needS s cd ++ needS s ev ++ nedL s ks)) 0 s.cols.length
def nedL (s : Sch) : List Xpr → List Pk
  | [] => []
  | x :: r => nedS s x ++ nedL s r
end
theorem nedL_eq (s : Sch) : ∀ l, nedL s l = l.flatMap (nedS s)
  | [] => rfl
  | x :: r => by rw [nedL, nedL_eq s r]; rfl
abbrev allN (s : Sch) (e : Xpr) : List Pk := ownS s e ++ needS s e.cnd ++ needS s e.evt ++ e.kids.flatMap (nedS s)
theorem nedS_eq (s : Sch) (e : Xpr) : nedS s e = pksR (lvM (allN s e)) 0 s.cols.length := by
  cases e
  rw [nedS, nedL_eq]; rfl
def neeS (s : Sch) (e : Xpr) : List Pk := if rigX s e = true then nedS s e else []
structure Bnd where
  name : List UInt8
  kind : Int
def lookK (nm : List UInt8) : List Bnd → Int × Int → Int × Int
  | [], z => z
  | b :: r, z => lookK nm r (if b.name = nm then (b.kind, 0) else z)
def bndK (before : List Bnd) (nm : List UInt8) : Int × Int := lookK nm before (0, 24)
def endK (before : List Bnd) (e : Xpr) (numbers : Bool) : Int × Int :=
  if e.op = 2 then bndK before e.name else if numbers = false then (0, 16) else if numP e.op then (1, 0) else (e.op - 8, 0)
mutual
def kinS (before : List Bnd) : Xpr → Int × Int
  | .mk o n nm c cs ds cd ev ks => if (kinL before ks true).1 = 0 then endK before (.mk o n nm c cs ds cd ev ks) (kinL before ks true).2 else (0, (kinL before ks true).1)
def kinL (before : List Bnd) : List Xpr → Bool → Int × Bool
  | [], b => (0, b)
  | x :: r, b => if (kinS before x).2 = 0 then kinL before r (b && decide ((kinS before x).1 = 1)) else ((kinS before x).2, b)
end
theorem kinS_eq (before : List Bnd) (e : Xpr) : kinS before e = if (kinL before e.kids true).1 = 0 then endK before e (kinL before e.kids true).2 else (0, (kinL before e.kids true).1) := by
  cases e
  rw [kinS]; rfl
def exkS (s : Sch) (picks : List Pk) (before : List Bnd) (e : Xpr) : Int × Int :=
  if rigX s e = false then (0, 11) else if picksE s picks = 0 ∧ covB picks (nedS s e) = true then kinS before e else (0, 23)
def typK (s : Sch) (picks : List Pk) : List Stm → List Bnd → Nat → List Int × Int × Int
  | [], bs, k => (bs.map (·.kind), k, 0)
  | t :: r, bs, k => if (exkS s picks bs t.x).2 = 0 then typK s picks r (bs ++ [⟨t.name, (exkS s picks bs t.x).1⟩]) (k + 1) else ([], k, (exkS s picks bs t.x).2)
def typS (s : Sch) (picks : List Pk) (l : List Stm) : List Int × Int × Int := if (proS s l).2 = 0 then typK s picks l [] 0 else ([], proS s l)
structure RigE (s : Sch) (e : Xpr) : Prop where
  op : 1 ≤ e.op ∧ e.op ≤ 14
  unu : unuX e
  par : parB s e = true
  cnd : usCnd e.op → cndE s e.cnd = 0
  evt : usEvt e.op → cndE s e.evt = 0
  pair : pairP e.op → e.kids.length = 2
  kid : ∀ k ∈ e.kids, numP k.op ∧ rigS s k = true
theorem rig_parts {s : Sch} {e : Xpr} (h : rigS s e = true) : RigE s e := by
  rw [rigS_eq] at h
  simp only [Bool.and_eq_true, Bool.not_eq_true', oneX] at h
  obtain ⟨⟨⟨⟨⟨⟨h1, h2⟩, h3⟩, h4⟩, h5⟩, h6⟩, h7⟩ := h
  refine ⟨of_decide_eq_true h1, of_decide_eq_true h2, h3, fun hc => ?_, fun hc => ?_, fun hc => ?_, fun k hk => ?_⟩
  · rw [decide_eq_false (fun hn => hn hc), Bool.false_or] at h4; exact of_decide_eq_true h4
  · rw [decide_eq_false (fun hn => hn hc), Bool.false_or] at h5; exact of_decide_eq_true h5
  · rw [decide_eq_false (fun hn => hn hc), Bool.false_or] at h6; exact of_decide_eq_true h6
  · have := List.any_eq_false.1 h7 k hk
    simp only [badK, Bool.or_eq_true, not_or, Bool.not_eq_true', Bool.not_eq_false] at this
    exact ⟨of_decide_eq_true this.1, this.2⟩
theorem isB_col {s : Sch} {col kind : Int} (h : isB s col kind = true) : 0 ≤ col ∧ col < s.cols.length ∧ ∃ c, s.cols[col.toNat]? = some c ∧ c.kind = kind := by
  obtain ⟨h0, h1, h2⟩ : 0 ≤ col ∧ col < s.cols.length ∧ (colAt s col).kind = kind := by simpa [isB] using h
  have hc : s.cols[col.toNat]? = some (s.cols[col.toNat]'(by omega)) := List.getElem?_eq_getElem (by omega)
  exact ⟨h0, h1, _, hc, by rw [colAt_get hc] at h2; exact h2⟩
theorem RigE.col {s : Sch} {e : Xpr} (h : RigE s e) (ho : usCol e.op) : (e.op = 10 ∧ e.col = -1) ∨ isB s e.col 3 = true := by
  have hp := h.par
  have hop := h.op
  simp only [usCol] at ho
  unfold parB at hp
  rw [if_neg (by omega), if_neg (by omega)] at hp
  by_cases h4 : e.op = 4 ∨ e.op = 5 ∨ e.op = 14
  · rw [if_pos h4] at hp; exact .inr hp
  rw [if_neg h4] at hp
  by_cases h10 : e.op = 10
  · rw [if_pos h10] at hp
    simp only [Bool.and_eq_true, Bool.or_eq_true] at hp
    rcases hp.2 with h | h
    · exact .inl ⟨h10, of_decide_eq_true h⟩
    · exact .inr h
  rw [if_neg h10] at hp
  by_cases h11 : e.op = 11
  · rw [if_pos h11] at hp
    simp only [Bool.and_eq_true] at hp
    exact .inr hp.1
  rw [if_neg h11] at hp
  by_cases h12 : e.op = 12
  · rw [if_pos h12] at hp
    simp only [Bool.and_eq_true] at hp
    exact .inr hp.1
  rw [if_neg h12, if_pos (by omega)] at hp
  simp only [Bool.and_eq_true] at hp
  exact .inr hp.1
theorem RigE.lens {s : Sch} {e : Xpr} (h : RigE s e) : e.dims.length ≤ 3 ∧ e.cols.length ≤ 3 ∧ e.kids.length ≤ 2 := by
  obtain ⟨_, _, _, h4, h5, _, _, h8⟩ := h.unu
  have hp := h.par
  unfold parB at hp
  refine ⟨?_, ?_, ?_⟩
  · rcases h5 with h5 | h5
    · have h10 : e.op = 10 := h5
      rw [if_neg (by omega), if_neg (by omega), if_neg (by omega), if_pos h10] at hp
      simp only [Bool.and_eq_true] at hp
      have := of_decide_eq_true hp.1
      unfold dimsE at this
      split at this
      · cases this
      · omega
    · omega
  · rcases h4 with h4 | h4
    · have h11 : e.op = 11 := h4
      rw [if_neg (by omega), if_neg (by omega), if_neg (by omega), if_neg (by omega), if_pos h11] at hp
      simp only [Bool.and_eq_true] at hp
      have := of_decide_eq_true hp.2
      unfold trmsE at this
      split at this
      · cases this
      · omega
    · omega
  · rcases h8 with h8 | h8
    · have := h.pair h8; omega
    · omega
theorem own1_call (s : Sch) (acc : List Pk) (c : Int) (hl : acc.length ≤ 100000) : GCall Tryz.prog 101 2 [(0, some (.box [.row 1 0 acc.length])), (1, some (.row 67 2 0 (acc.map pkL)))] [.i c, .ref 0 0, .iptr (sL s)] 2 [(0, some (.box [.row 1 0 (acc.length + 1)])), (1, some (.row 67 2 0 ((acc ++ [exaS s c]).map pkL)))] (.tup []) := by
  have h1 := finestS_call s c
  have h2 := least_call s c (finestS s c)
  refine gcall_intro (n := 15) Tryz.func101 (by kernel_rfl) rfl rfl rfl rfl (fun E h0 => ?_)
  repeat' ((first | refine call_i h1 ?_ | refine call_i h2 ?_ | (refine draw_id 0 ?_; refine draw_m (id := 0) ⟨[], 2, [(0, some (.box [.row 1 0 (acc.length + 1)])), (1, some (.row 67 2 0 ((acc ++ [exaS s c]).map pkL)))]⟩ ?_ ?_) |refine aops_go ?_|refine awp_go ?_|refine guard_tt ?_|refine guard_ff ?_|refine guard_tf ?_|refine guard_ft ?_|refine cond_t ?_|refine cond_f ?_|refine Z1 ?_|refine Z2 ?_|refine stp ?_|(refine And.intro ?_ ?_<;>intro h<;>try first|(exfalso;omega)|exact absurd rfl h)|refine Z3 ?_|refine Z4 ?_|intro el hel hbB|intro el hel|intro ex|refine Z5 ?_|(refine free_i ?_ ?_;exact ⟨by kernel_rfl,by decide⟩)|refine allI_c ?_ ?_|exact allI_n|refine allMP_c ?_ ?_|exact allMP_n|(refine many_step ?_ ?_ ?_;kernel_rfl;kernel_rfl)) <;> (try (conv => whnf)))
  all_goals first
    | exact le_of h0 rfl trivial ⟨rfl, ⟨_, congrArg (Blk.row 67 2 _) (by rw [List.map_append]; rfl)⟩, trivial⟩ rfl rfl rfl
    | (delta retG; exact .inl ⟨[], [], rfl, trivial, rfl, rfl, le_of h0 rfl trivial ⟨rfl, ⟨_, rfl⟩, trivial⟩ rfl rfl rfl, rfl⟩)
set_option maxHeartbeats 4000000 in
theorem levelOf_call (s : Sch) (col width : Int) {c : Col} (h0c : 0 ≤ col) (hc : s.cols[col.toNat]? = some c) : FCall Tryz.prog 104 [sA s, .i col, .i width] (.i (levO (colAt s col).widths width)) := by
  rw [colAt_get hc]
  unfold levO
  refine fcall_intro (n := 31) Tryz.func104 (by kernel_rfl) rfl rfl rfl rfl rfl (by intro t T h; cases h) (fun hrd E h0 => ?_)
  have hlen : c.widths.length ≤ 9223372036854775807 := by
    have := ((((hrd (sA s) (by simp)).agg (.sl 7 (s.cols.map colL)) (by simp))).elem (colL c) (List.mem_map.2 ⟨c, List.mem_of_getElem? hc, rfl⟩) (.sl 1 (c.widths.map wA)) (by simp)).sl
    simpa using this
  clear hrd
  repeat' ((first | (refine each_knownm (x := c) hc (by omega) ?_) |refine aops_go ?_|refine awp_go ?_|refine guard_tt ?_|refine guard_ff ?_|refine guard_tf ?_|refine guard_ft ?_|refine cond_t ?_|refine cond_f ?_|refine Z1 ?_|refine Z2 ?_|refine stp ?_|(refine And.intro ?_ ?_<;>intro h<;>try first|(exfalso;omega)|exact absurd rfl h)|refine Z3 ?_|refine Z4 ?_|intro el hel hbB|intro el hel|intro ex|refine Z5 ?_|(refine free_i ?_ ?_;exact ⟨by kernel_rfl,by decide⟩)|refine allI_c ?_ ?_|exact allI_n|refine allMP_c ?_ ?_|exact allMP_n|(refine many_step ?_ ?_ ?_;kernel_rfl;kernel_rfl)) <;> (try (conv => whnf)))
  refine loop_i (ι := Nat) (fun k => ⟨[(2, .i width), (7, .sl 1 (c.widths.map wA)), (16, .sl 1 (c.widths.map wA)), (17, .i c.widths.length), (18, .i k)], 1, []⟩) (fun k => k ≤ c.widths.length ∧ idxP (fun x => decide (x = width)) c.widths 0 = idxP (fun x => decide (x = width)) (c.widths.drop k) k) (fun k => c.widths.length - k) 0 ⟨Nat.zero_le _, rfl⟩
    (le_of h0 rfl ⟨rfl, rfl, rfl, rfl, rfl, trivial⟩ trivial rfl rfl rfl) (fun k hI => ?_)
  obtain ⟨hk, hI⟩ := hI
  repeat' ((first|refine aops_go ?_|refine awp_go ?_|refine guard_tt ?_|refine guard_ff ?_|refine guard_tf ?_|refine guard_ft ?_|refine cond_t ?_|refine cond_f ?_|refine Z1 ?_|refine Z2 ?_|refine stp ?_|(refine And.intro ?_ ?_<;>intro h<;>try first|(exfalso;omega)|exact absurd rfl h)|refine Z3 ?_|refine Z4 ?_|intro el hel hbB|intro el hel|intro ex|refine Z5 ?_|(refine free_i ?_ ?_;exact ⟨by kernel_rfl,by decide⟩)|refine allI_c ?_ ?_|exact allI_n|refine allMP_c ?_ ?_|exact allMP_n|(refine many_step ?_ ?_ ?_;kernel_rfl;kernel_rfl)) <;> (try (conv => whnf)))
  all_goals first
    | exact ⟨k + 1, ⟨by omega, by rw [hI, dropc hel, idxP, if_neg (by rw [decide_eq_true_iff]; omega)]; rfl⟩, by omega, le_of h0 rfl ⟨rfl, rfl, rfl, rfl, rfl, trivial⟩ trivial rfl rfl rfl⟩
    | (have e1 : idxP (fun x => decide (x = width)) c.widths 0 = k := by rw [hI, dropc hel, idxP, if_pos (by rw [decide_eq_true_iff]; omega)]
       exact ret_tmp rfl (congrArg AV.i (by rw [e1, if_pos (by omega)])))
    | (have e1 : idxP (fun x => decide (x = width)) c.widths 0 = -1 := by rw [hI, show k = c.widths.length by omega, List.drop_length]; rfl
       exact ret_tmp rfl (congrArg AV.i (by rw [e1, if_neg (by omega)])))
set_option maxHeartbeats 16000000 in
theorem ownN_call (s : Sch) (hr : schE s = 0) (e : Xpr) (hg : RigE s e) : FCall Tryz.prog 53 [sA s, xprA e] (.sl 2 ((ownS s e).map pkL)) := by
  obtain ⟨hd3, hc3, _⟩ := hg.lens
  have hcol := hg.col
  have hop := hg.op
  have hls := fun c l => least_call s c l
  have hlev : ∀ h : e.op = 13, FCall Tryz.prog 104 [sA s, .i e.col, .i e.num] (.i (levO (colAt s e.col).widths e.num)) := fun h => by
    rcases hcol (by simp only [usCol]; omega) with h' | h'
    · omega
    · obtain ⟨h0c, _, c, hc, _⟩ := isB_col h'
      exact levelOf_call s e.col e.num h0c hc
  have how := own1_call s
  rw [xprA_eq]
  refine fcall_intro (n := 78) Tryz.func53 (by kernel_rfl) rfl rfl rfl rfl rfl (by intro t T h; cases h) (fun hrd E h0 => ?_)
  clear hrd
  repeat' ((first | (refine ncall_frz 0 ?_; refine aops_go ?_; (conv => whnf); refine ncall_mk rfl rfl ?_) |refine aops_go ?_|refine awp_go ?_|refine guard_tt ?_|refine guard_ff ?_|refine guard_tf ?_|refine guard_ft ?_|refine cond_t ?_|refine cond_f ?_|refine Z1 ?_|refine Z2 ?_|refine stp ?_|(refine And.intro ?_ ?_<;>intro h<;>try first|(exfalso;omega)|exact absurd rfl h)|refine Z3 ?_|refine Z4 ?_|intro el hel hbB|intro el hel|intro ex|refine Z5 ?_|(refine free_i ?_ ?_;exact ⟨by kernel_rfl,by decide⟩)|refine allI_c ?_ ?_|exact allI_n|refine allMP_c ?_ ?_|exact allMP_n|(refine many_step ?_ ?_ ?_;kernel_rfl;kernel_rfl)) <;> (try (conv => whnf)))
  refine loop_i (ι := Nat) (fun k => ⟨[(2, .iptr (sL s)), (3, .ref 1 0), (5, .ref 2 0), (6, .fo 101 [.ref 2 0, .iptr (sL s)]), (13, .sl 2 (e.dims.map pkL)), (14, .i e.dims.length), (15, .i k)], 4, [(1, some (.box (xprY e))), (2, some (.box [.row 3 0 ((e.dims.take k).map (dimS s)).length])), (3, some (.row 67 2 0 (((e.dims.take k).map (dimS s)).map pkL)))]⟩) (fun k => k ≤ e.dims.length) (fun k => e.dims.length - k) 0 (Nat.zero_le _)
    (le_trans (le_adoptb 2 0 (e := 67) (sz := 2) rfl rfl) (le_of h0 rfl ⟨rfl, rfl, rfl, rfl, rfl, rfl, rfl, trivial⟩ ⟨rfl, rfl, ⟨0, rfl⟩, trivial⟩ rfl rfl rfl)) (fun k hk => ?_)
  have hkl : ((e.dims.take k).map (dimS s)).length ≤ 3 := by rw [List.length_map, List.length_take]; omega
  by_cases hlt : k < e.dims.length
  · obtain ⟨d, hd⟩ : ∃ d, e.dims[k]? = some d := ⟨_, List.getElem?_eq_getElem hlt⟩
    have hnx : (e.dims.take (k + 1)).map (dimS s) = (e.dims.take k).map (dimS s) ++ [dimS s d] := by rw [takec hd, List.map_append]; rfl
    have hl1 := hls d.col d.lev
    generalize (e.dims.take k).map (dimS s) = A at hkl hnx ⊢
    repeat' ((first | (refine each_knownm (x := d) hd (by omega) ?_) | refine call_i hl1 ?_ | (refine draw_id 6 ?_; refine draw_le (id := 6) (σ' := ⟨[(2, .iptr (sL s)), (3, .ref 1 0), (5, .ref 2 0), (6, .fo 101 [.ref 2 0, .iptr (sL s)]), (8, .iptr (pkL d)), (13, .sl 2 (e.dims.map pkL)), (14, .i e.dims.length), (15, .i k)], 4, [(1, some (.box (xprY e))), (2, some (.box [.row 3 0 A.length])), (3, some (.row 67 2 0 (A.map pkL)))]⟩) (le_of h0 rfl ⟨rfl, rfl, rfl, rfl, rfl, rfl, rfl, rfl, trivial⟩ ⟨rfl, rfl, ⟨_, rfl⟩, trivial⟩ rfl rfl rfl) ?_; refine draw_m (id := 6) ⟨[(2, .iptr (sL s)), (3, .ref 1 0), (5, .ref 2 0), (6, .fo 101 [.ref 2 0, .iptr (sL s)]), (13, .sl 2 (e.dims.map pkL)), (14, .i e.dims.length), (15, .i k)], 4, [(1, some (.box (xprY e))), (2, some (.box [.row 3 0 (A.length + 1)])), (3, some (.row 67 2 0 ((A ++ [dimS s d]).map pkL)))]⟩ ?_ ?_) |refine aops_go ?_|refine awp_go ?_|refine guard_tt ?_|refine guard_ff ?_|refine guard_tf ?_|refine guard_ft ?_|refine cond_t ?_|refine cond_f ?_|refine Z1 ?_|refine Z2 ?_|refine stp ?_|(refine And.intro ?_ ?_<;>intro h<;>try first|(exfalso;omega)|exact absurd rfl h)|refine Z3 ?_|refine Z4 ?_|intro el hel hbB|intro el hel|intro ex|refine Z5 ?_|(refine free_i ?_ ?_;exact ⟨by kernel_rfl,by decide⟩)|refine allI_c ?_ ?_|exact allI_n|refine allMP_c ?_ ?_|exact allMP_n|(refine many_step ?_ ?_ ?_;kernel_rfl;kernel_rfl)) <;> (try (conv => whnf)))
    all_goals first
      | exact le_of h0 rfl ⟨rfl, rfl, rfl, rfl, rfl, rfl, rfl, trivial⟩ ⟨rfl, rfl, ⟨_, congrArg (Blk.row 67 2 _) (by rw [List.map_append]; rfl)⟩, trivial⟩ rfl rfl rfl
      | (refine ⟨k + 1, by omega, by omega, ?_⟩; rw [hnx]; exact le_of h0 rfl ⟨rfl, rfl, rfl, rfl, rfl, rfl, rfl, trivial⟩ ⟨rfl, congrArg (fun z => Blk.box [.row 3 0 z]) (by rw [List.length_append]; rfl), ⟨_, rfl⟩, trivial⟩ rfl rfl rfl)
  · obtain rfl : k = e.dims.length := by omega
    rw [List.take_length]
    have hol : (ownM s e).length ≤ 1 := by
      unfold ownM
      split
      · split <;> simp
      · split <;> simp
    have hownM : ∀ A, A = e.dims.map (dimS s) → ownS s e = A ++ ownM s e ++ e.cols.map (exaS s) := fun A h => by rw [h]; rfl
    have hM1 : (e.op = 4 ∨ e.op = 5 ∨ e.op = 10 ∨ e.op = 11 ∨ e.op = 12 ∨ e.op = 14) → 0 < e.col → ownM s e = [exaS s e.col] := fun h1 h2 => by unfold ownM; rw [if_pos h1, if_pos h2]
    have hM2 : (e.op = 4 ∨ e.op = 5 ∨ e.op = 10 ∨ e.op = 11 ∨ e.op = 12 ∨ e.op = 14) → ¬ 0 < e.col → ownM s e = [] := fun h1 h2 => by unfold ownM; rw [if_pos h1, if_neg h2]
    have hM3 : e.op = 13 → ownM s e = [⟨e.col, leastS s e.col (levO (colAt s e.col).widths e.num)⟩] := fun h1 => by unfold ownM; rw [if_neg (by omega), if_pos h1]
    have hM4 : ¬ (e.op = 4 ∨ e.op = 5 ∨ e.op = 10 ∨ e.op = 11 ∨ e.op = 12 ∨ e.op = 14) → ¬ e.op = 13 → ownM s e = [] := fun h1 h2 => by unfold ownM; rw [if_neg h1, if_neg h2]
    have hkl : (e.dims.map (dimS s)).length ≤ 3 := by rw [List.length_map]; exact hd3
    generalize hA : e.dims.map (dimS s) = A at hkl ⊢
    rw [hownM A hA.symm]
    clear hkl hownM
    have hAl : A.length ≤ 3 := by rw [← hA, List.length_map]; exact hd3
    generalize ownM s e = M at *
    have c1 := how A e.col (by omega)
    have c2 := hls e.col (levO (colAt s e.col).widths e.num)
    repeat' ((first | refine ⟨ncall_v [2, 3] [0, 0] c1 rfl rfl rfl rfl rfl rfl ⟨rfl, rfl, trivial⟩ rfl rfl rfl rfl rfl ?_⟩ | (refine call_i (hlev (by assumption)) ?_) | refine call_i c2 ?_ | (refine draw_id 18 ?_; refine draw_le (id := 18) (σ' := ⟨[(2, .iptr (sL s)), (3, .iptr (xprY e)), (5, .ref 2 0), (6, .fo 101 [.ref 2 0, .iptr (sL s)])], 4, [(2, some (.box [.row 3 0 A.length])), (3, some (.row 67 2 0 (A.map pkL)))]⟩) (le_of h0 rfl ⟨rfl, rfl, rfl, rfl, trivial⟩ ⟨rfl, ⟨_, rfl⟩, trivial⟩ rfl rfl rfl) ?_; refine draw_m (id := 18) ⟨[(2, .iptr (sL s)), (3, .iptr (xprY e)), (5, .ref 2 0), (6, .fo 101 [.ref 2 0, .iptr (sL s)])], 4, [(2, some (.box [.row 3 0 (A.length + 1)])), (3, some (.row 67 2 0 ((A ++ [(⟨e.col, leastS s e.col (levO (colAt s e.col).widths e.num)⟩ : Pk)]).map pkL)))]⟩ ?_ ?_) |refine aops_go ?_|refine awp_go ?_|refine guard_tt ?_|refine guard_ff ?_|refine guard_tf ?_|refine guard_ft ?_|refine cond_t ?_|refine cond_f ?_|refine Z1 ?_|refine Z2 ?_|refine stp ?_|(refine And.intro ?_ ?_<;>intro h<;>try first|(exfalso;omega)|exact absurd rfl h)|refine Z3 ?_|refine Z4 ?_|intro el hel hbB|intro el hel|intro ex|refine Z5 ?_|(refine free_i ?_ ?_;exact ⟨by kernel_rfl,by decide⟩)|refine allI_c ?_ ?_|exact allI_n|refine allMP_c ?_ ?_|exact allMP_n|(refine many_step ?_ ?_ ?_;kernel_rfl;kernel_rfl)) <;> (try (conv => whnf)))
    all_goals first
      | exact le_of h0 rfl ⟨rfl, rfl, rfl, rfl, trivial⟩ ⟨rfl, ⟨_, congrArg (Blk.row 67 2 _) (by rw [List.map_append]; rfl)⟩, trivial⟩ rfl rfl rfl
      | skip
    all_goals
      first
        | (have hM := hM1 (by omega) (by assumption))
        | (have hM := hM2 (by omega) (by assumption))
        | (have hM := hM3 (by assumption))
        | (have hM := hM4 (by omega) (by assumption))
      clear hM1 hM2 hM3 hM4
      refine loop_i (ι := Nat) (fun k => ⟨[(5, .ref 2 0), (6, .fo 101 [.ref 2 0, .iptr (sL s)]), (67, .sl 1 (e.cols.map wA)), (68, .i e.cols.length), (69, .i k)], 4, [(2, some (.box [.row 3 0 (A ++ M ++ (e.cols.take k).map (exaS s)).length])), (3, some (.row 67 2 0 ((A ++ M ++ (e.cols.take k).map (exaS s)).map pkL)))]⟩) (fun k => k ≤ e.cols.length) (fun k => e.cols.length - k) 0 (Nat.zero_le _)
        (le_of h0 rfl ⟨rfl, rfl, rfl, rfl, rfl, trivial⟩ ⟨congrArg (fun z => Blk.box [.row 3 0 z]) (by rw [hM]; simp), ⟨_, congrArg (Blk.row 67 2 _) (by rw [hM]; simp)⟩, trivial⟩ rfl rfl rfl) (fun k hk => ?_)
      have hBl : (A ++ M ++ (e.cols.take k).map (exaS s)).length ≤ 7 := by rw [List.length_append, List.length_append, List.length_map, List.length_take]; omega
      by_cases hlt : k < e.cols.length
      · obtain ⟨c, hc⟩ : ∃ c, e.cols[k]? = some c := ⟨_, List.getElem?_eq_getElem hlt⟩
        have hnx : A ++ M ++ (e.cols.take (k + 1)).map (exaS s) = A ++ M ++ (e.cols.take k).map (exaS s) ++ [exaS s c] := by rw [takec hc, List.map_append, List.append_assoc (A ++ M)]; rfl
        generalize A ++ M ++ (e.cols.take k).map (exaS s) = B at hBl hnx ⊢
        have c3 := how B c (by omega)
        repeat' ((first | (refine each_knownm (x := c) hc (by omega) ?_) | refine ⟨ncall_v [2, 3] [0, 0] c3 rfl rfl rfl rfl rfl rfl ⟨rfl, rfl, trivial⟩ rfl rfl rfl rfl rfl ?_⟩ |refine aops_go ?_|refine awp_go ?_|refine guard_tt ?_|refine guard_ff ?_|refine guard_tf ?_|refine guard_ft ?_|refine cond_t ?_|refine cond_f ?_|refine Z1 ?_|refine Z2 ?_|refine stp ?_|(refine And.intro ?_ ?_<;>intro h<;>try first|(exfalso;omega)|exact absurd rfl h)|refine Z3 ?_|refine Z4 ?_|intro el hel hbB|intro el hel|intro ex|refine Z5 ?_|(refine free_i ?_ ?_;exact ⟨by kernel_rfl,by decide⟩)|refine allI_c ?_ ?_|exact allI_n|refine allMP_c ?_ ?_|exact allMP_n|(refine many_step ?_ ?_ ?_;kernel_rfl;kernel_rfl)) <;> (try (conv => whnf)))
        all_goals first
          | (exfalso; omega)
          | (refine ⟨k + 1, by omega, by omega, ?_⟩; rw [hnx]; exact le_of h0 rfl ⟨rfl, rfl, rfl, rfl, rfl, trivial⟩ ⟨congrArg (fun z => Blk.box [.row 3 0 z]) (by rw [List.length_append]; rfl), ⟨_, rfl⟩, trivial⟩ rfl rfl rfl)
      · obtain rfl : k = e.cols.length := by omega
        rw [List.take_length]
        repeat' ((first|refine aops_go ?_|refine awp_go ?_|refine guard_tt ?_|refine guard_ff ?_|refine guard_tf ?_|refine guard_ft ?_|refine cond_t ?_|refine cond_f ?_|refine Z1 ?_|refine Z2 ?_|refine stp ?_|(refine And.intro ?_ ?_<;>intro h<;>try first|(exfalso;omega)|exact absurd rfl h)|refine Z3 ?_|refine Z4 ?_|intro el hel hbB|intro el hel|intro ex|refine Z5 ?_|(refine free_i ?_ ?_;exact ⟨by kernel_rfl,by decide⟩)|refine allI_c ?_ ?_|exact allI_n|refine allMP_c ?_ ?_|exact allMP_n|(refine many_step ?_ ?_ ?_;kernel_rfl;kernel_rfl)) <;> (try (conv => whnf)))
        all_goals first
          | (exfalso; omega)
          | exact ret_tmp rfl rfl
abbrev pksW (p : List Pk) : List AV := [.sl 2 (p.map pkL)]
structure MapLv (m : List (Key × AV)) (lv : Nat → Int) : Prop where
  keys : MapKeys (.int .i64) m
  get : ∀ c : Nat, mgetD m (.i .i64 c) (ofV (.int .i64 0)) = .i (lv c)
theorem mapLv_nil : MapLv [] fun _ => 0 := ⟨fun p hp => (by cases hp), fun c => rfl⟩
theorem MapLv.step {m : List (Key × AV)} {lv : Nat → Int} (h : MapLv m lv) {p : Pk} (hp : 0 ≤ p.col) : MapLv (mset m (.i .i64 p.col) (.i (max (lv p.col.toNat) p.lev))) (upd lv p.col p.lev) := by
  refine ⟨mset_keys (by rfl) h.keys, fun c => ?_⟩
  unfold mgetD upd
  rw [mget_mset]
  by_cases e : p.col = (c : Int)
  · rw [if_pos (by rw [e]), if_pos e, e, Int.toNat_natCast]
  · rw [if_neg (fun hh => e (by injection hh)), if_neg e]
    exact h.get c
theorem MapLv.geti {m : List (Key × AV)} {lv : Nat → Int} (h : MapLv m lv) {c : Int} (hc : 0 ≤ c) : mgetD m (.i .i64 c) (ofV (.int .i64 0)) = .i (lv c.toNat) := by
  have := h.get c.toNat
  rwa [show ((c.toNat : Nat) : Int) = c by omega] at this
theorem take_flat {α : Type} {ls : List (List α)} {j k : Nat} {l : List α} {x : α} (hl : ls[j]? = some l) (hx : l[k]? = some x) : (ls.take j).flatten ++ l.take (k + 1) = (ls.take j).flatten ++ l.take k ++ [x] := by
  rw [takec hx, List.append_assoc]
theorem flat_next {α : Type} {ls : List (List α)} {j : Nat} {l : List α} (hl : ls[j]? = some l) : (ls.take (j + 1)).flatten = (ls.take j).flatten ++ l := by
  rw [takec hl, List.flatten_append]; simp
set_option maxHeartbeats 16000000 in
theorem merge_call (ls : List (List Pk)) (hp : ∀ l ∈ ls, l.length ≤ 100000 ∧ ∀ p ∈ l, 0 ≤ p.col ∧ p.col < 1000) : FCall Tryz.prog 55 [.sl 1 (ls.map pksW)] (.sl 2 ((mrgS ls.flatten).map pkL)) := by
  have hfl : ∀ p ∈ ls.flatten, 0 ≤ p.col ∧ p.col < 1000 := fun p hm => by
    obtain ⟨l, h1, h2⟩ := List.mem_flatten.1 hm
    exact (hp l h1).2 p h2
  have hla := lastC_lt (n := 1000) (l := ls.flatten) (by omega) fun p hm => (hfl p hm).2
  have hlb := (lastC_ge (l := ls.flatten)).1
  unfold mrgS
  refine fcall_intro (n := 59) Tryz.func55 (by kernel_rfl) rfl rfl rfl rfl rfl (by intro t T h; cases h) (fun hrd E h0 => ?_)
  have hlen : ls.length ≤ 9223372036854775807 := by
    have := (hrd (.sl 1 (ls.map pksW)) (by simp)).sl
    simpa using this
  clear hrd
  repeat' ((first|refine aops_go ?_|refine awp_go ?_|refine guard_tt ?_|refine guard_ff ?_|refine guard_tf ?_|refine guard_ft ?_|refine cond_t ?_|refine cond_f ?_|refine Z1 ?_|refine Z2 ?_|refine stp ?_|(refine And.intro ?_ ?_<;>intro h<;>try first|(exfalso;omega)|exact absurd rfl h)|refine Z3 ?_|refine Z4 ?_|intro el hel hbB|intro el hel|intro ex|refine Z5 ?_|(refine free_i ?_ ?_;exact ⟨by kernel_rfl,by decide⟩)|refine allI_c ?_ ?_|exact allI_n|refine allMP_c ?_ ?_|exact allMP_n|(refine many_step ?_ ?_ ?_;kernel_rfl;kernel_rfl)) <;> (try (conv => whnf)))
  refine loop_i (ι := Nat × List (Key × AV)) (fun x => ⟨[(3, .mp 0), (4, .i (lastC (ls.take x.1).flatten)), (12, .sl 1 (ls.map pksW)), (13, .i ls.length), (14, .i x.1)], 1, [(0, some (.map x.2))]⟩) (fun x => x.1 ≤ ls.length ∧ MapLv x.2 (lvM (ls.take x.1).flatten)) (fun x => ls.length - x.1) (0, []) ⟨Nat.zero_le _, mapLv_nil⟩
    (le_of h0 rfl ⟨rfl, rfl, rfl, rfl, rfl, trivial⟩ ⟨rfl, trivial⟩ rfl rfl rfl) (fun x hI => ?_)
  obtain ⟨j, m⟩ := x
  obtain ⟨hj, hm⟩ := hI
  dsimp only at hj hm ⊢
  by_cases hlt : j < ls.length
  · obtain ⟨l, hl⟩ : ∃ l, ls[j]? = some l := ⟨_, List.getElem?_eq_getElem hlt⟩
    obtain ⟨hll, hlp⟩ := hp l (List.mem_of_getElem? hl)
    have hfn := flat_next hl
    have htf := fun (k : Nat) (p : Pk) (h : l[k]? = some p) => take_flat (k := k) hl h
    have hbd : lastC (ls.take j).flatten < 1000 := lastC_lt (by omega) fun p h => by
      refine (hfl p ?_).2
      obtain ⟨l', h1, h2⟩ := List.mem_flatten.1 h
      exact List.mem_flatten.2 ⟨l', List.mem_of_mem_take h1, h2⟩
    generalize (ls.take j).flatten = D at *
    repeat' ((first | (refine each_knownm (x := l) hl (by omega) ?_) |refine aops_go ?_|refine awp_go ?_|refine guard_tt ?_|refine guard_ff ?_|refine guard_tf ?_|refine guard_ft ?_|refine cond_t ?_|refine cond_f ?_|refine Z1 ?_|refine Z2 ?_|refine stp ?_|(refine And.intro ?_ ?_<;>intro h<;>try first|(exfalso;omega)|exact absurd rfl h)|refine Z3 ?_|refine Z4 ?_|intro el hel hbB|intro el hel|intro ex|refine Z5 ?_|(refine free_i ?_ ?_;exact ⟨by kernel_rfl,by decide⟩)|refine allI_c ?_ ?_|exact allI_n|refine allMP_c ?_ ?_|exact allMP_n|(refine many_step ?_ ?_ ?_;kernel_rfl;kernel_rfl)) <;> (try (conv => whnf)))
    all_goals first
      | (exfalso; omega)
      | skip
    refine loop_i (ι := Nat × List (Key × AV)) (fun x => ⟨[(3, .mp 0), (4, .i (lastC (D ++ l.take x.1))), (12, .sl 1 (ls.map pksW)), (13, .i ls.length), (14, .i j), (18, .sl 2 (l.map pkL)), (19, .i l.length), (20, .i x.1)], 1, [(0, some (.map x.2))]⟩) (fun x => x.1 ≤ l.length ∧ MapLv x.2 (lvM (D ++ l.take x.1))) (fun x => l.length - x.1) (0, m) ⟨Nat.zero_le _, by dsimp only; rw [List.take_zero, List.append_nil]; exact hm⟩
      (le_of h0 rfl ⟨rfl, (by rw [List.take_zero, List.append_nil]; rfl), rfl, rfl, rfl, rfl, rfl, rfl, trivial⟩ ⟨rfl, trivial⟩ rfl rfl rfl) (fun x hI => ?_)
    obtain ⟨k, m2⟩ := x
    obtain ⟨hk, hm2⟩ := hI
    dsimp only at hk hm2 ⊢
    by_cases hkl : k < l.length
    · obtain ⟨p, hpk⟩ : ∃ p, l[k]? = some p := ⟨_, List.getElem?_eq_getElem hkl⟩
      have hpc := hlp p (List.mem_of_getElem? hpk)
      have hst := hm2.step hpc.1
      have hge := hm2.geti hpc.1
      have hky := hm2.keys
      have hnx := htf k p hpk
      have hl2 : lastC (D ++ l.take (k + 1)) = max (lastC (D ++ l.take k)) p.col := by rw [hnx, lastC_snoc]
      have hl3 : lvM (D ++ l.take (k + 1)) = upd (lvM (D ++ l.take k)) p.col p.lev := by rw [hnx, lvM_snoc]
      rw [← hl3] at hst
      generalize lvM (D ++ l.take k) p.col.toNat = v at *
      generalize lastC (D ++ l.take k) = q at *
      repeat' ((first | (refine each_knownm (x := p) hpk (by omega) ?_) | (refine side_i ?_ ?_; exact hky) | refine as_eq hge ?_ | (refine draw_id 8 ?_; refine draw_le (id := 8) (σ' := ⟨[(3, .mp 0), (4, .i q), (8, .iptr (pkL p)), (12, .sl 1 (ls.map pksW)), (13, .i ls.length), (14, .i j), (18, .sl 2 (l.map pkL)), (19, .i l.length), (20, .i k)], 1, [(0, some (.map m2))]⟩) (le_of h0 rfl ⟨rfl, rfl, rfl, rfl, rfl, rfl, rfl, rfl, rfl, trivial⟩ ⟨rfl, trivial⟩ rfl rfl rfl) ?_; refine draw_m (id := 8) ⟨[(3, .mp 0), (4, .i (max q p.col)), (12, .sl 1 (ls.map pksW)), (13, .i ls.length), (14, .i j), (18, .sl 2 (l.map pkL)), (19, .i l.length), (20, .i k)], 1, [(0, some (.map (mset m2 (.i .i64 p.col) (.i (max v p.lev)))))]⟩ ?_ ?_) |refine aops_go ?_|refine awp_go ?_|refine guard_tt ?_|refine guard_ff ?_|refine guard_tf ?_|refine guard_ft ?_|refine cond_t ?_|refine cond_f ?_|refine Z1 ?_|refine Z2 ?_|refine stp ?_|(refine And.intro ?_ ?_<;>intro h<;>try first|(exfalso;omega)|exact absurd rfl h)|refine Z3 ?_|refine Z4 ?_|intro el hel hbB|intro el hel|intro ex|refine Z5 ?_|(refine free_i ?_ ?_;exact ⟨by kernel_rfl,by decide⟩)|refine allI_c ?_ ?_|exact allI_n|refine allMP_c ?_ ?_|exact allMP_n|(refine many_step ?_ ?_ ?_;kernel_rfl;kernel_rfl)) <;> (try (conv => whnf)))
      all_goals first
        | exact le_of h0 rfl ⟨rfl, rfl, rfl, rfl, rfl, rfl, rfl, rfl, trivial⟩ ⟨rfl, trivial⟩ rfl rfl rfl
        | exact ⟨(k + 1, mset m2 (.i .i64 p.col) (.i (max v p.lev))), ⟨by dsimp only; omega, hst⟩, by dsimp only; omega, le_of h0 rfl ⟨rfl, (congrArg (fun z : Int => some (AV.i z)) hl2.symm), rfl, rfl, rfl, rfl, rfl, rfl, trivial⟩ ⟨rfl, trivial⟩ rfl rfl rfl⟩
        | (exfalso; omega)
    · obtain rfl : k = l.length := by omega
      rw [List.take_length, ← hfn] at *
      repeat' ((first|refine aops_go ?_|refine awp_go ?_|refine guard_tt ?_|refine guard_ff ?_|refine guard_tf ?_|refine guard_ft ?_|refine cond_t ?_|refine cond_f ?_|refine Z1 ?_|refine Z2 ?_|refine stp ?_|(refine And.intro ?_ ?_<;>intro h<;>try first|(exfalso;omega)|exact absurd rfl h)|refine Z3 ?_|refine Z4 ?_|intro el hel hbB|intro el hel|intro ex|refine Z5 ?_|(refine free_i ?_ ?_;exact ⟨by kernel_rfl,by decide⟩)|refine allI_c ?_ ?_|exact allI_n|refine allMP_c ?_ ?_|exact allMP_n|(refine many_step ?_ ?_ ?_;kernel_rfl;kernel_rfl)) <;> (try (conv => whnf)))
      all_goals first
        | (exfalso; omega)
        | exact ⟨(j + 1, m2), ⟨by dsimp only; omega, hm2⟩, by dsimp only; omega, le_of h0 rfl ⟨rfl, rfl, rfl, rfl, rfl, trivial⟩ ⟨rfl, trivial⟩ rfl rfl rfl⟩
  · obtain rfl : j = ls.length := by omega
    rw [List.take_length] at hm ⊢
    generalize lastC ls.flatten = q at *
    generalize lvM ls.flatten = lv at *
    repeat' ((first|refine aops_go ?_|refine awp_go ?_|refine guard_tt ?_|refine guard_ff ?_|refine guard_tf ?_|refine guard_ft ?_|refine cond_t ?_|refine cond_f ?_|refine Z1 ?_|refine Z2 ?_|refine stp ?_|(refine And.intro ?_ ?_<;>intro h<;>try first|(exfalso;omega)|exact absurd rfl h)|refine Z3 ?_|refine Z4 ?_|intro el hel hbB|intro el hel|intro ex|refine Z5 ?_|(refine free_i ?_ ?_;exact ⟨by kernel_rfl,by decide⟩)|refine allI_c ?_ ?_|exact allI_n|refine allMP_c ?_ ?_|exact allMP_n|(refine many_step ?_ ?_ ?_;kernel_rfl;kernel_rfl)) <;> (try (conv => whnf)))
    all_goals first
      | (exfalso; omega)
      | skip
    obtain ⟨q1, hq1⟩ : ∃ q1 : Nat, q + 1 = (q1 : Int) := ⟨(q + 1).toNat, by omega⟩
    rw [hq1, Int.toNat_natCast]
    refine loop_i (ι := Nat) (fun c => ⟨[(3, .mp 0), (9, .row 1 0 (pksR lv 0 c).length), (41, .i q1), (42, .i c)], 2, [(0, some (.map m)), (1, some (.row 67 2 0 ((pksR lv 0 c).map pkL)))]⟩) (fun c => c ≤ q1) (fun c => q1 - c) 0 (Nat.zero_le _)
      (le_trans (le_adopt (d := 9) (e := 67) (sz := 2) rfl) (le_of h0 rfl ⟨rfl, rfl, (congrArg (fun z : Int => some (AV.i z)) (by omega)), rfl, trivial⟩ ⟨rfl, ⟨0, rfl⟩, trivial⟩ rfl rfl rfl)) (fun c hc => ?_)
    have hpl := pksR_length lv c 0
    have hsn := pksR_snoc lv c 0
    rw [Nat.zero_add] at hsn
    have hge := hm.get c
    have hky := hm.keys
    generalize lv c = v at *
    have hend : c = q1 → pksR lv 0 q1 = pksR lv 0 c := fun h => by rw [h]
    generalize pksR lv 0 c = A at *
    repeat' ((first | (refine side_i ?_ ?_; exact hky) | refine as_eq hge ?_ |refine aops_go ?_|refine awp_go ?_|refine guard_tt ?_|refine guard_ff ?_|refine guard_tf ?_|refine guard_ft ?_|refine cond_t ?_|refine cond_f ?_|refine Z1 ?_|refine Z2 ?_|refine stp ?_|(refine And.intro ?_ ?_<;>intro h<;>try first|(exfalso;omega)|exact absurd rfl h)|refine Z3 ?_|refine Z4 ?_|intro el hel hbB|intro el hel|intro ex|refine Z5 ?_|(refine free_i ?_ ?_;exact ⟨by kernel_rfl,by decide⟩)|refine allI_c ?_ ?_|exact allI_n|refine allMP_c ?_ ?_|exact allMP_n|(refine many_step ?_ ?_ ?_;kernel_rfl;kernel_rfl)) <;> (try (conv => whnf)))
    all_goals first
      | (rw [if_pos (by assumption)] at hsn; refine ⟨c + 1, by omega, by omega, ?_⟩; rw [hsn]; exact le_of h0 rfl ⟨rfl, congrArg (fun z : Nat => some (AV.row 1 0 z)) (by rw [List.length_append]; rfl), rfl, rfl, trivial⟩ ⟨rfl, ⟨_, congrArg (Blk.row 67 2 _) (by rw [List.map_append]; rfl)⟩, trivial⟩ rfl rfl rfl)
      | exact ret_tmp rfl (congrArg (fun z : List Pk => AV.sl 2 (z.map pkL)) (hend (by omega)).symm)
      | (rw [if_neg (by assumption), List.append_nil] at hsn; refine ⟨c + 1, by omega, by omega, ?_⟩; rw [hsn]; exact le_of h0 rfl ⟨rfl, rfl, rfl, rfl, trivial⟩ ⟨rfl, ⟨_, rfl⟩, trivial⟩ rfl rfl rfl)
theorem own_ok {s : Sch} {e : Xpr} (hr : schE s = 0) (hg : RigE s e) : ∀ p ∈ ownS s e, 0 ≤ p.col ∧ p.col < s.cols.length := by
  intro p hp
  obtain ⟨_, _, _, h4, h5, _, _, _⟩ := hg.unu
  have hpar := hg.par
  unfold parB at hpar
  unfold ownS at hp
  rcases List.mem_append.1 hp with hp | hp
  rcases List.mem_append.1 hp with hp | hp
  · obtain ⟨d, hd, rfl⟩ := List.mem_map.1 hp
    have h10 : e.op = 10 := by
      rcases h5 with h | h
      · exact h
      · rw [List.eq_nil_of_length_eq_zero h] at hd; cases hd
    rw [if_neg (by omega), if_neg (by omega), if_neg (by omega), if_pos h10] at hpar
    simp only [Bool.and_eq_true] at hpar
    have hde := of_decide_eq_true hpar.1
    unfold dimsE at hde
    split at hde
    · cases hde
    · obtain ⟨i, hi, he⟩ := List.getElem_of_mem hd
      have := firstE_zero hde i d (by rw [List.getElem?_eq_getElem hi, he])
      unfold dimE at this
      split at this
      · exact absurd this (by assumption)
      · rename_i hpe
        have hpe : pickE s d = 0 := Decidable.of_not_not hpe
        unfold pickE pkE finS at hpe
        rw [if_pos hr] at hpe
        by_cases hc : d.col < 1 ∨ (s.cols.length : Int) ≤ d.col
        · rw [if_pos hc, if_pos (show (-1 : Int) < 0 by omega)] at hpe; cases hpe
        · dsimp only [dimS]; omega
  · unfold ownM at hp
    split at hp
    · split at hp
      · rename_i h1 h2
        simp only [List.mem_singleton] at hp
        subst hp
        rcases hg.col (by simp only [usCol]; omega) with h | h
        · omega
        · have := isB_col h; exact ⟨this.1, this.2.1⟩
      · cases hp
    · split at hp
      · rename_i h1 h2
        simp only [List.mem_singleton] at hp
        subst hp
        rcases hg.col (by simp only [usCol]; omega) with h | h
        · omega
        · have := isB_col h; exact ⟨this.1, this.2.1⟩
      · cases hp
  · obtain ⟨c, hc, rfl⟩ := List.mem_map.1 hp
    have h11 : e.op = 11 := by
      rcases h4 with h | h
      · exact h
      · rw [List.eq_nil_of_length_eq_zero h] at hc; cases hc
    rw [if_neg (by omega), if_neg (by omega), if_neg (by omega), if_neg (by omega), if_pos h11] at hpar
    simp only [Bool.and_eq_true] at hpar
    have hde := of_decide_eq_true hpar.2
    unfold trmsE at hde
    split at hde
    · cases hde
    · obtain ⟨i, hi, he⟩ := List.getElem_of_mem hc
      have := firstE_zero hde i c (by rw [List.getElem?_eq_getElem hi, he])
      unfold trmE at this
      split at this
      · cases this
      · rename_i hb
        have := isB_col (show isB s c 3 = true by simpa using hb)
        exact ⟨this.1, this.2.1⟩
theorem pks_in {lv : Nat → Int} {n : Nat} : ∀ p ∈ pksR lv 0 n, 0 ≤ p.col ∧ p.col < n := fun p hp => by
  have := pksR_mem hp
  omega
theorem need_in {s : Sch} {c : Cnd} : ∀ p ∈ needS s c, 0 ≤ p.col ∧ p.col < s.cols.length := fun p hp => by
  unfold needS at hp
  split at hp
  · exact pks_in p hp
  · cases hp
theorem ned_in {s : Sch} {e : Xpr} : ∀ p ∈ nedS s e, 0 ≤ p.col ∧ p.col < s.cols.length := fun p hp => by
  rw [nedS_eq] at hp
  exact pks_in p hp
theorem allN_in {s : Sch} {e : Xpr} (hr : schE s = 0) (hg : RigE s e) : ∀ p ∈ allN s e, 0 ≤ p.col ∧ p.col < s.cols.length := by
  intro p hp
  unfold allN at hp
  rcases List.mem_append.1 hp with hp | hp
  rcases List.mem_append.1 hp with hp | hp
  rcases List.mem_append.1 hp with hp | hp
  · exact own_ok hr hg p hp
  · exact need_in p hp
  · exact need_in p hp
  · obtain ⟨k, _, h⟩ := List.mem_flatMap.1 hp
    exact ned_in p h
theorem ned_len {s : Sch} {e : Xpr} : (nedS s e).length ≤ s.cols.length := by rw [nedS_eq]; exact pksR_length _ _ _
abbrev kidN17 (s : Sch) (e : Xpr) (k : Nat) : List (List Pk) := [ownS s e, needS s e.cnd, needS s e.evt] ++ (e.kids.take k).map (nedS s)
set_option maxHeartbeats 16000000 in
theorem tneeds_call (s : Sch) (hr : schE s = 0) (e : Xpr) : rigS s e = true → FCall Tryz.prog 30 [sA s, xprA e] (.sl 2 ((nedS s e).map pkL)) := by
  refine xpr_ind (p := fun e => rigS s e = true → FCall Tryz.prog 30 [sA s, xprA e] (.sl 2 ((nedS s e).map pkL))) (fun e ih hg => ?_) e
  have hg := rig_parts hg
  obtain ⟨_, _, hk2⟩ := hg.lens
  have hn := (schE_parts hr).2.1
  have hcl : s.cols.length ≤ 100000 := by omega
  have h1 := ownN_call s hr e hg
  have h2 := cneeds_call s e.cnd
  have h3 := cneeds_call s e.evt
  have hin := allN_in hr hg
  have hone : 0 < s.cols.length := by
    obtain ⟨_, _, _, _, h5⟩ := schE_parts hr
    cases hc : s.cols with
    | nil => rw [hc] at h5; cases h5
    | cons a r => exact Nat.succ_pos _
  have hol : (ownS s e).length ≤ 7 := by
    obtain ⟨q1, q2, _⟩ := hg.lens
    unfold ownS
    rw [List.length_append, List.length_append, List.length_map, List.length_map]
    have : (ownM s e).length ≤ 1 := by
      unfold ownM
      split
      · split <;> simp
      · split <;> simp
    omega
  have hmg := merge_call (kidN17 s e e.kids.length) (fun l hl => by
    unfold kidN17 at hl
    rw [List.take_length] at hl
    simp only [List.cons_append, List.nil_append, List.mem_cons] at hl
    rcases hl with rfl | rfl | rfl | hl
    · exact ⟨by omega, fun p hp => by have := own_ok hr hg p hp; omega⟩
    · exact ⟨by have := need_length s e.cnd; omega, fun p hp => by have := need_in p hp; omega⟩
    · exact ⟨by have := need_length s e.evt; omega, fun p hp => by have := need_in p hp; omega⟩
    · obtain ⟨k, _, rfl⟩ := List.mem_map.1 hl
      exact ⟨by have := ned_len (s := s) (e := k); omega, fun p hp => by have := ned_in p hp; omega⟩)
  have hfl : (kidN17 s e e.kids.length).flatten = allN s e := by
    unfold kidN17 allN
    rw [List.take_length]
    simp [List.flatMap_def, List.append_assoc]
  rw [hfl, mrg_eq hone hin, ← nedS_eq] at hmg
  generalize nedS s e = R at *
  rw [xprA_eq] at h1 ⊢
  refine fcall_intro (n := 36) Tryz.func30 (by kernel_rfl) rfl rfl rfl rfl rfl (by intro t T h; cases h) (fun hrd E h0 => ?_)
  clear hrd
  repeat' ((first | (refine draw_id 1 ?_; refine draw_le (id := 1) (σ' := ⟨[(2, .iptr (sL s)), (3, .iptr (xprY e))], 2, []⟩) (le_of h0 rfl ⟨rfl, rfl, trivial⟩ trivial rfl rfl rfl) ?_; refine draw_m (id := 1) ⟨[(2, .iptr (sL s)), (3, .iptr (xprY e)), (5, .row 2 0 3)], 3, [(2, some (.row 24 1 0 ((kidN17 s e 0).map pksW)))]⟩ ?_ ?_) | (refine many_step2 ?_ ?_ ?_; kernel_rfl; kernel_rfl) | refine own_slice (T := 52) rfl ?_ | refine call_i h1 ?_ | refine call_i h2 ?_ | refine call_i h3 ?_ |refine aops_go ?_|refine awp_go ?_|refine guard_tt ?_|refine guard_ff ?_|refine guard_tf ?_|refine guard_ft ?_|refine cond_t ?_|refine cond_f ?_|refine Z1 ?_|refine Z2 ?_|refine stp ?_|(refine And.intro ?_ ?_<;>intro h<;>try first|(exfalso;omega)|exact absurd rfl h)|refine Z3 ?_|refine Z4 ?_|intro el hel hbB|intro el hel|intro ex|refine Z5 ?_|(refine free_i ?_ ?_;exact ⟨by kernel_rfl,by decide⟩)|refine allI_c ?_ ?_|exact allI_n|refine allMP_c ?_ ?_|exact allMP_n|(refine many_step ?_ ?_ ?_;kernel_rfl;kernel_rfl)) <;> (try (conv => whnf)))
  all_goals first
    | exact le_of h0 rfl ⟨rfl, rfl, rfl, trivial⟩ ⟨⟨_, rfl⟩, trivial⟩ rfl rfl rfl
    | skip
  refine loop_i (ι := Nat) (fun k => ⟨[(2, .iptr (sL s)), (5, .row 2 0 (kidN17 s e k).length), (21, .sl 19 (e.kids.map xprX)), (22, .i e.kids.length), (23, .i k)], 3, [(2, some (.row 24 1 0 ((kidN17 s e k).map pksW)))]⟩) (fun k => k ≤ e.kids.length) (fun k => e.kids.length - k) 0 (Nat.zero_le _)
    (by exact le_of h0 rfl ⟨rfl, rfl, rfl, rfl, rfl, trivial⟩ ⟨⟨_, rfl⟩, trivial⟩ rfl rfl rfl) (fun k hk => ?_)
  by_cases hlt : k < e.kids.length
  · obtain ⟨x, hx⟩ : ∃ x, e.kids[k]? = some x := ⟨_, List.getElem?_eq_getElem hlt⟩
    have hq := ih x (List.mem_of_getElem? hx) (hg.kid x (List.mem_of_getElem? hx)).2
    have hnx : kidN17 s e (k + 1) = kidN17 s e k ++ [nedS s x] := by
      unfold kidN17
      rw [takec hx, List.map_append, List.append_assoc]; rfl
    have hkl : (kidN17 s e k).length ≤ 5 := by
      unfold kidN17
      rw [List.length_append, List.length_map, List.length_take]
      simp only [List.length_cons, List.length_nil]; omega
    generalize kidN17 s e k = A at *
    generalize nedS s x = B at *
    repeat' ((first | (refine each_knownm (x := x) hx (by omega) ?_) | refine call_i hq ?_ |refine aops_go ?_|refine awp_go ?_|refine guard_tt ?_|refine guard_ff ?_|refine guard_tf ?_|refine guard_ft ?_|refine cond_t ?_|refine cond_f ?_|refine Z1 ?_|refine Z2 ?_|refine stp ?_|(refine And.intro ?_ ?_<;>intro h<;>try first|(exfalso;omega)|exact absurd rfl h)|refine Z3 ?_|refine Z4 ?_|intro el hel hbB|intro el hel|intro ex|refine Z5 ?_|(refine free_i ?_ ?_;exact ⟨by kernel_rfl,by decide⟩)|refine allI_c ?_ ?_|exact allI_n|refine allMP_c ?_ ?_|exact allMP_n|(refine many_step ?_ ?_ ?_;kernel_rfl;kernel_rfl)) <;> (try (conv => whnf)))
    all_goals first
      | (exfalso; omega)
      | (refine ⟨k + 1, by omega, by omega, ?_⟩; rw [hnx]; exact le_of h0 rfl ⟨rfl, congrArg (fun z : Nat => some (AV.row 2 0 z)) (by rw [List.length_append]; rfl), rfl, rfl, rfl, trivial⟩ ⟨⟨_, congrArg (Blk.row 24 1 _) (by rw [List.map_append]; rfl)⟩, trivial⟩ rfl rfl rfl)
  · obtain rfl : k = e.kids.length := by omega
    repeat' ((first | refine ncall_frz 2 ?_ | refine call_i hmg ?_ |refine aops_go ?_|refine awp_go ?_|refine guard_tt ?_|refine guard_ff ?_|refine guard_tf ?_|refine guard_ft ?_|refine cond_t ?_|refine cond_f ?_|refine Z1 ?_|refine Z2 ?_|refine stp ?_|(refine And.intro ?_ ?_<;>intro h<;>try first|(exfalso;omega)|exact absurd rfl h)|refine Z3 ?_|refine Z4 ?_|intro el hel hbB|intro el hel|intro ex|refine Z5 ?_|(refine free_i ?_ ?_;exact ⟨by kernel_rfl,by decide⟩)|refine allI_c ?_ ?_|exact allI_n|refine allMP_c ?_ ?_|exact allMP_n|(refine many_step ?_ ?_ ?_;kernel_rfl;kernel_rfl)) <;> (try (conv => whnf)))
    all_goals first
      | (exfalso; omega)
      | exact ret_tmp rfl rfl
end Go.Proofs.YtepdcljecfibpaaGreatDoor
