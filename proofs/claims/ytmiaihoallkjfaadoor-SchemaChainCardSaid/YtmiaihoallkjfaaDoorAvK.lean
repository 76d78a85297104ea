/- One rule for every operation: what is left to prove is reckoned by unfolding. -/
import Derived.Test.YtmiaihoallkjfaaDoorAvS
namespace Go.Av
open Go Go.RowKit
set_option linter.unusedSimpArgs false
set_option linter.unusedVariables false
set_option linter.unnecessarySimpa false

/-! ### What a walk meets -/
structure SideP (p A : Prop) : Prop where
  h : p
  k : A
/-- An element of a list, at an index that must be one. -/
structure EachP {α : Type} (l : List α) (i : Int) (F : α → Prop) : Prop where
  h0 : 0 ≤ i
  h : i < l.length
  k : ∀ el, l[i.toNat]? = some el → F el
/-- A value that may be told in other words. -/
structure AsP (a : AV) (F : AV → Prop) : Prop where
  h : F a
theorem as_id {a : AV} {F : AV → Prop} (h : F a) : AsP a F := ⟨h⟩
theorem as_eq {a b : AV} {F : AV → Prop} (e : a = b) (h : F b) : AsP a F := ⟨e ▸ h⟩
/-- The length of a list. -/
structure LenP {α : Type} (l : List α) (F : Nat → Prop) : Prop where
  k : F l.length
structure CondP (b : Bool) (A B : Prop) : Prop where
  t : b = true → A
  f : b = false → B
structure CallP (P : Program) (f : Nat) (args : List AV) (F : AV → Prop) : Prop where
  h : ∃ r, FCall P f args r ∧ F r
/-- A call that is lent memory of one's own, which it only reads. -/
structure LendP (P : Program) (f : Nat) (hp : Hp) (l caps : List AV) (F : AV → Prop) : Prop where
  h : ∃ (is : List Nat) (L : List AV) (r : AV), cvL hp (dropL is hp) l = L ∧ closedLB L = true ∧ FCall P f (L ++ caps) r ∧ flatB r = true ∧ F r
structure VarP (P : Program) (T : Nat) (F : Bool → Nat → Prop) : Prop where
  h : ∃ ag sz, TVar P T ag sz ∧ F ag sz
structure ZeroP (P : Program) (T : Nat) (F : List AV → Prop) : Prop where
  h : ∃ l, TZero P T l ∧ F (l.map ofV)
structure FldP (P : Program) (S f : Nat) (F : Nat → Nat → Prop) : Prop where
  h : ∃ off sz, TFld P S f off sz ∧ F off sz
structure SlP (P : Program) (T : Nat) (F : Nat → Nat → Prop) : Prop where
  h : ∃ e sz, TSl P T e sz ∧ F e sz
structure ArrP (P : Program) (T : Nat) (F : Nat → Nat → Prop) : Prop where
  h : ∃ len e sz, TArr P T len e sz ∧ F len sz
structure StrTP (P : Program) (T : Nat) (A : Prop) : Prop where
  h : TStr P T
  k : A
structure BoolTP (P : Program) (T : Nat) (A : Prop) : Prop where
  h : TBool P T
  k : A
structure BuildP (P : Program) (T : Nat) (F : List AV → List (Nat × Nat) → Prop) : Prop where
  h : ∃ zs pl, TZero P T zs ∧ TPlaces P T pl ∧ F (zs.map ofV) pl
structure RowP (P : Program) (T : Nat) (F : Nat → Nat → Nat → List AV → Prop) : Prop where
  h : ∃ e sz bs z, TSl P T e sz ∧ TZero P e z ∧ TBytes P e bs ∧ z.length = sz ∧ F e sz bs (z.map ofV)
structure MapP (P : Program) (T : Nat) (F : TypeDesc → AV → Prop) : Prop where
  h : ∃ k e t z, TMapK P T k e t z ∧ F t (ofV z)
inductive ConvR (P : Program) (S T : Nat) : AV → AV → Prop
  | bytes {e sz : Nat} (l : List UInt8) [TStr P S] [TSl P T e sz] [TInt P e .u8] (h : l.length ≤ 9223372036854775807) : ConvR P S T (.str l) (.sl 1 (l.map fun b => [.v (.int .u8 b.toNat)]))
  | int {k k' : IntKind} (m : Int) [TInt P T k] [TInt P S k'] : ConvR P S T (.v (.int k' m)) (.v (.int k (k.wrap m)))
  | rune {k : IntKind} (m : Int) [TInt P S k] [TStr P T] : ConvR P S T (.v (.int k m)) (.str (Utf8.encode m).data.toList)
structure ConvP (P : Program) (S T : Nat) (a : AV) (F : AV → Prop) : Prop where
  h : ∃ r, ConvR P S T a r ∧ F r

theorem side_i {p A : Prop} (h : p) (k : A) : SideP p A := ⟨h, k⟩
theorem each_mapN {α β : Type} {l : List β} {f : β → α} {k : Nat} {F : α → Prop} (h : k < l.length) (kk : ∀ x, l[k]? = some x → F (f x)) : EachP (l.map f) (k : Int) F :=
  ⟨by omega, by simpa using h, fun el hel => by
    simp at hel
    obtain ⟨u, hu, rfl⟩ := hel
    exact kk u hu⟩
theorem each_map {α β : Type} {l : List β} {f : β → α} {i : Int} {F : α → Prop} (h0 : 0 ≤ i) (h : i < l.length) (kk : ∀ x, l[i.toNat]? = some x → F (f x)) : EachP (l.map f) i F :=
  ⟨h0, by simpa using h, fun el hel => by
    simp at hel
    obtain ⟨u, hu, rfl⟩ := hel
    exact kk u hu⟩
theorem each_l {α : Type} {l : List α} {i : Int} {F : α → Prop} (h0 : 0 ≤ i) (h : i < l.length) (kk : ∀ x, l[i.toNat]? = some x → F x) : EachP l i F := ⟨h0, h, kk⟩
theorem each_N {α : Type} {l : List α} {k : Nat} {F : α → Prop} (h : k < l.length) (kk : ∀ x, l[k]? = some x → F x) : EachP l (k : Int) F := ⟨by omega, by omega, kk⟩
/-- At a place that was looked at before. -/
theorem each_known {α : Type} {l : List α} {i : Int} {x : α} {F : α → Prop} (h : l[i.toNat]? = some x) (h0 : 0 ≤ i) (kk : F x) : EachP l i F := by
  have h1 := (List.getElem?_eq_some_iff.1 h).1
  exact ⟨h0, by omega, fun el hel => by rw [h] at hel; cases hel; exact kk⟩
theorem each_knownm {α β : Type} {l : List β} {f : β → α} {i : Int} {x : β} {F : α → Prop} (h : l[i.toNat]? = some x) (h0 : 0 ≤ i) (kk : F (f x)) : EachP (l.map f) i F :=
  each_known (by simp [h]) h0 kk
/-- At a place that is reckoned. -/
theorem each_at {α : Type} {l : List α} {i : Int} {x : α} {F : α → Prop} (h : l[i.toNat]? = some x) (h0 : decide (0 ≤ i) = true) (kk : F x) : EachP l i F := by
  have h1 := (List.getElem?_eq_some_iff.1 h).1
  have h2 := of_decide_eq_true h0
  exact ⟨h2, by omega, fun el hel => by rw [h] at hel; cases hel; exact kk⟩
theorem len_map {α β : Type} {l : List β} {f : β → α} {F : Nat → Prop} (k : F l.length) : LenP (l.map f) F := ⟨by rw [List.length_map]; exact k⟩
theorem len_l {α : Type} {l : List α} {F : Nat → Prop} (k : F l.length) : LenP l F := ⟨k⟩
theorem cond_t {A B : Prop} (k : A) : CondP true A B := ⟨fun _ => k, fun h => by cases h⟩
theorem cond_f {A B : Prop} (k : B) : CondP false A B := ⟨(fun h => by cases h), fun _ => k⟩
theorem cond_d {p A B : Prop} [Decidable p] (h1 : p → A) (h2 : ¬ p → B) : CondP (decide p) A B := ⟨fun h => h1 (of_decide_eq_true h), fun h => h2 (of_decide_eq_false h)⟩
theorem cond_nd {p A B : Prop} [Decidable p] (h1 : ¬ p → A) (h2 : p → B) : CondP (!decide p) A B := ⟨fun h => h1 (by simpa using h), fun h => h2 (by simpa using h)⟩
theorem cond_b {b : Bool} {A B : Prop} (h1 : b = true → A) (h2 : b = false → B) : CondP b A B := ⟨h1, h2⟩
theorem cond_nb {b : Bool} {A B : Prop} (h1 : b = false → A) (h2 : b = true → B) : CondP (!b) A B := ⟨(fun h => h1 (by simpa using h)), fun h => h2 (by simpa using h)⟩
theorem call_i {P : Program} {f : Nat} {args : List AV} {r : AV} {F : AV → Prop} (h : FCall P f args r) (k : F r) : CallP P f args F := ⟨⟨r, h, k⟩⟩
theorem lend_i {P : Program} {f : Nat} {hp : Hp} {l caps L M : List AV} {r : AV} {F : AV → Prop} (is : List Nat) (h : FCall P f M r) (hM : L ++ caps = M) (hL : cvL hp (dropL is hp) l = L) (hcl : closedLB L = true) (hfl : flatB r = true) (k : F r) : LendP P f hp l caps F := ⟨⟨is, L, r, hL, hcl, hM ▸ h, hfl, k⟩⟩
theorem var_i {P : Program} {T : Nat} {ag : Bool} {sz : Nat} {F : Bool → Nat → Prop} [h : TVar P T ag sz] (k : F ag sz) : VarP P T F := ⟨⟨ag, sz, h, k⟩⟩
theorem zero_i {P : Program} {T : Nat} {l : List Value} {F : List AV → Prop} [h : TZero P T l] (k : F (l.map ofV)) : ZeroP P T F := ⟨⟨l, h, k⟩⟩
theorem fld_i {P : Program} {S f off sz : Nat} {F : Nat → Nat → Prop} [h : TFld P S f off sz] (k : F off sz) : FldP P S f F := ⟨⟨off, sz, h, k⟩⟩
theorem sl_i {P : Program} {T e sz : Nat} {F : Nat → Nat → Prop} [h : TSl P T e sz] (k : F e sz) : SlP P T F := ⟨⟨e, sz, h, k⟩⟩
theorem arr_i {P : Program} {T len e sz : Nat} {F : Nat → Nat → Prop} [h : TArr P T len e sz] (k : F len sz) : ArrP P T F := ⟨⟨len, e, sz, h, k⟩⟩
theorem strt_i {P : Program} {T : Nat} {A : Prop} [h : TStr P T] (k : A) : StrTP P T A := ⟨h, k⟩
theorem boolt_i {P : Program} {T : Nat} {A : Prop} [h : TBool P T] (k : A) : BoolTP P T A := ⟨h, k⟩
theorem build_i {P : Program} {T : Nat} {zs : List Value} {pl : List (Nat × Nat)} {F : List AV → List (Nat × Nat) → Prop} [h : TZero P T zs] [h2 : TPlaces P T pl] (k : F (zs.map ofV) pl) : BuildP P T F := ⟨⟨zs, pl, h, h2, k⟩⟩
theorem row_i {P : Program} {T e sz bs : Nat} {z : List Value} {F : Nat → Nat → Nat → List AV → Prop} [h : TSl P T e sz] [h2 : TZero P e z] [h3 : TBytes P e bs] (hz : z.length = sz) (k : F e sz bs (z.map ofV)) : RowP P T F := ⟨⟨e, sz, bs, z, h, h2, h3, hz, k⟩⟩
theorem map_i {P : Program} {T k e : Nat} {t : TypeDesc} {z : Value} {F : TypeDesc → AV → Prop} [h : TMapK P T k e t z] (kk : F t (ofV z)) : MapP P T F := ⟨⟨k, e, t, z, h, kk⟩⟩
theorem conv_bytes {P : Program} {S T e sz : Nat} {l : List UInt8} {F : AV → Prop} [TStr P S] [TSl P T e sz] [TInt P e .u8] (h : l.length ≤ 9223372036854775807) (k : F (.sl 1 (l.map fun b => [.v (.int .u8 b.toNat)]))) : ConvP P S T (.str l) F := ⟨⟨_, .bytes (e := e) (sz := sz) l h, k⟩⟩
theorem conv_id {P : Program} {S T : Nat} {k k' : IntKind} {m : Int} {F : AV → Prop} [TInt P T k] [TInt P S k'] (h : k.wrap m = m) (kk : F (.v (.int k m))) : ConvP P S T (.v (.int k' m)) F := ⟨⟨_, .int (k := k) m, by rw [h]; exact kk⟩⟩
theorem conv_int {P : Program} {S T : Nat} {k k' : IntKind} {m : Int} {F : AV → Prop} [TInt P T k] [TInt P S k'] (kk : F (.v (.int k (k.wrap m)))) : ConvP P S T (.v (.int k' m)) F := ⟨⟨_, .int (k := k) m, kk⟩⟩
theorem conv_rune {P : Program} {S T : Nat} {k : IntKind} {m : Int} {F : AV → Prop} [TInt P S k] [TStr P T] (kk : F (.str (Utf8.encode m).data.toList)) : ConvP P S T (.v (.int k m)) F := ⟨⟨_, .rune (k := k) m, kk⟩⟩

theorem cond_false {c : Bool} {A : Prop} (h : cond c A False) : c = true ∧ A := by
  cases c
  · exact h.elim
  · exact ⟨rfl, h⟩

def oneB : Value → Bool
  | .agg _ | .tuple _ => false
  | _ => true
theorem oneB_spec {v : Value} (h : oneB v = true) : v.oneCell' = true := by cases v <;> first | rfl | cases h

/-- A value of one cell. -/
def OneP (hp : Hp) (a : AV) (A : Prop) : Prop :=
  match a with
  | .v x => cond (oneB x) A False
  | .str _ | .sl _ _ | .iptr _ | .ref _ _ | .mp _ | .fn _ _ => A
  | .row i ver _ => match lookB hp i with
    | some (.row _ _ v' _) => SideP (ver = v') A
    | _ => False
  | _ => False
theorem oneP_spec {hp : Hp} {a : AV} {A : Prop} (h : OneP hp a A) : One hp a ∧ A := by
  unfold OneP at h
  split at h
  · rename_i x
    obtain ⟨h1, h2⟩ := cond_false h
    exact ⟨One.v (oneB_spec h1), h2⟩
  · exact ⟨.str _, h⟩
  · exact ⟨.sl _ _, h⟩
  · exact ⟨.iptr _, h⟩
  · exact ⟨.ref _ _, h⟩
  · exact ⟨.mp _, h⟩
  · exact ⟨.fn _ _, h⟩
  · split at h
    · rename_i hl
      obtain ⟨rfl, h⟩ := h
      exact ⟨.row hl, h⟩
    · exact h.elim
  · exact h.elim
def OnesP (hp : Hp) : List AV → Prop → Prop
  | [], A => A
  | x :: r, A => OneP hp x (OnesP hp r A)
theorem onesP_spec {hp : Hp} : ∀ {l : List AV} {A : Prop}, OnesP hp l A → AllOne hp l ∧ A
  | [], A, h => ⟨trivial, h⟩
  | x :: r, A, h => by
    obtain ⟨h1, h2⟩ := oneP_spec h
    obtain ⟨h3, h4⟩ := onesP_spec h2
    exact ⟨⟨h1, h3⟩, h4⟩
/-- Cells that can be laid. -/
def FitP (hp : Hp) (a : AV) (A : Prop) : Prop :=
  match a with
  | .agg _ => A
  | a => OneP hp a A
theorem fitP_spec {hp : Hp} {a : AV} {A : Prop} (h : FitP hp a A) : Fits hp a ∧ A := by
  unfold FitP at h
  split at h
  · exact ⟨trivial, h⟩
  · rename_i hn
    obtain ⟨h1, h2⟩ := oneP_spec h
    refine ⟨?_, h2⟩
    cases a <;> first | exact h1 | exact trivial
def FitsPP (hp : Hp) : List (Nat × AV) → Prop → Prop
  | [], A => A
  | (_, a) :: r, A => FitP hp a (FitsPP hp r A)
theorem fitsPP_spec {hp : Hp} : ∀ {l : List (Nat × AV)} {A : Prop}, FitsPP hp l A → FitsP hp l ∧ A
  | [], A, h => ⟨trivial, h⟩
  | (_, x) :: r, A, h => by
    obtain ⟨h1, h2⟩ := fitP_spec h
    obtain ⟨h3, h4⟩ := fitsPP_spec h2
    exact ⟨⟨h1, h3⟩, h4⟩
/-- Values that can stand in memory that nobody writes. -/
def ImP (a : AV) (A : Prop) : Prop :=
  match a with
  | .v x => cond (oneB x) A False
  | .str _ | .sl _ _ | .iptr _ | .fn _ _ => A
  | _ => False
theorem imP_spec {a : AV} {A : Prop} (h : ImP a A) : imOne a ∧ A := by
  unfold ImP at h
  split at h
  · obtain ⟨h1, h2⟩ := cond_false h
    exact ⟨oneB_spec h1, h2⟩
  · exact ⟨trivial, h⟩
  · exact ⟨trivial, h⟩
  · exact ⟨trivial, h⟩
  · exact ⟨trivial, h⟩
  · exact h.elim
def ImsP : List AV → Prop → Prop
  | [], A => A
  | x :: r, A => ImP x (ImsP r A)
def ImssP : List (List AV) → Prop → Prop
  | [], A => A
  | x :: r, A => ImsP x (ImssP r A)
theorem imsP_spec : ∀ {l : List AV} {A : Prop}, ImsP l A → (∀ u ∈ l, imOne u) ∧ A
  | [], A, h => ⟨fun u hu => by (cases hu), h⟩
  | x :: r, A, h => by
    obtain ⟨h1, h2⟩ := imP_spec h
    obtain ⟨h3, h4⟩ := imsP_spec h2
    refine ⟨fun u hu => ?_, h4⟩
    rcases List.mem_cons.1 hu with rfl | hu
    · exact h1
    · exact h3 u hu
theorem imssP_spec : ∀ {l : List (List AV)} {A : Prop}, ImssP l A → AllImOne l ∧ A
  | [], A, h => ⟨trivial, h⟩
  | x :: r, A, h => by
    obtain ⟨h1, h2⟩ := imsP_spec h
    obtain ⟨h3, h4⟩ := imssP_spec h2
    exact ⟨⟨h1, h3⟩, h4⟩

def withA (x : Option AV) (F : AV → Prop) : Prop :=
  match x with
  | some a => F a
  | none => False
theorem withA_spec {x : Option AV} {F : AV → Prop} (h : withA x F) : ∃ a, x = some a ∧ F a := by
  unfold withA at h
  split at h
  · exact ⟨_, rfl, h⟩
  · exact h.elim

/-- What is left of an operation on numbers. -/
def arithP (op : BinOp) (k : IntKind) (a b : Int) (F : AV → Prop) : Prop :=
  match op, k with
  | .add, .i64 => SideP (-9223372036854775808 ≤ a + b ∧ a + b ≤ 9223372036854775807) (F (.v (.int .i64 (a + b))))
  | .sub, .i64 => SideP (-9223372036854775808 ≤ a - b ∧ a - b ≤ 9223372036854775807) (F (.v (.int .i64 (a - b))))
  | .mul, .i64 => SideP (-9223372036854775808 ≤ a * b ∧ a * b ≤ 9223372036854775807) (F (.v (.int .i64 (a * b))))
  | .quo, .i64 => SideP (b ≠ 0 ∧ -9223372036854775808 ≤ a.tdiv b ∧ a.tdiv b ≤ 9223372036854775807) (F (.v (.int .i64 (a.tdiv b))))
  | .quo, k => SideP (b ≠ 0) (F (.v (.int k (k.wrap (a.tdiv b)))))
  | .rem, k => SideP (b ≠ 0) (F (.v (.int k (a.tmod b))))
  | op, k => match binI op k a b with
    | some r => F (.v r)
    | none => False
def strP (op : BinOp) (a b : List UInt8) (F : AV → Prop) : Prop :=
  match op with
  | .add => SideP (a.length + b.length ≤ 9223372036854775807) (F (.str (a ++ b)))
  | op => match binS op a b with
    | some r => F (.v r)
    | none => False
def boolP (P : Program) (T : Nat) (op : BinOp) (a b : Bool) (F : AV → Prop) : Prop :=
  match op with
  | .eql => BoolTP P T (F (.v (.bool (decide (a = b)))))
  | .neq => BoolTP P T (F (.v (.bool (decide (a ≠ b)))))
  | _ => False
def binP (P : Program) (T : Nat) (op : BinOp) (x y : Option AV) (F : AV → Prop) : Prop :=
  match op, x, y with
  | .shl, some (.v (.int k a)), some (.v (.int _ b)) => SideP (0 ≤ b) (F (.v (.int k (k.wrap (a * 2 ^ (min b.toNat k.bits))))))
  | .shr, some (.v (.int k a)), some (.v (.int _ b)) => SideP (0 ≤ b) (F (.v (.int k (a.fdiv (2 ^ (min b.toNat k.bits))))))
  | op, some (.v (.int k a)), some (.v (.int k' b)) => cond (decide (k = k')) (arithP op k a b F) False
  | op, some (.str s), some (.str t) => strP op s t F
  | op, some (.v (.bool a)), some (.v (.bool b)) => boolP P T op a b F
  | _, _, _ => False

def loadP (P : Program) (T : Nat) (hp : Hp) (x : Option AV) (F : AV → Prop) : Prop :=
  match x with
  | some (.ref i off) => match lookB hp i with
    | some (.box l) => VarP P T fun ag sz => cond ag
        (cond (Nat.beq off 0 && Nat.beq l.length sz) (F (.agg l)) (SideP (((l.drop off).take sz).length = sz) (F (.agg ((l.drop off).take sz)))))
        (withA (l[off]?) F)
    | _ => False
  | some (.iptr l) => VarP P T fun ag sz => cond ag
      (cond (Nat.beq l.length sz) (F (.agg l)) (SideP ((l.take sz).length = sz) (F (.agg (l.take sz)))))
      (match l with | av :: _ => F av | [] => False)
  | some (.elt i ver k off) => match lookB hp i with
    | some (.row _ sz ver' l) => SideP (ver = ver') (EachP l (k : Int) fun el => VarP P T fun ag szT => cond ag
        (cond (Nat.beq off 0 && Nat.beq szT sz) (F (.agg el)) False) (withA (el[off]?) F))
    | _ => False
  | _ => False
def fieldP (hp : Hp) (off : Nat) (x : Option AV) (F : AV → Prop) : Prop :=
  match x with
  | some (.ref i o) => F (.ref i (o + off))
  | some (.iptr l) => F (.iptr (l.drop off))
  | some (.elt i ver k o) => match lookB hp i with
    | some (.row _ _ ver' _) => SideP (ver = ver') (F (.elt i ver k (o + off)))
    | _ => False
  | _ => False
def indexP (P : Program) (T : Nat) (hp : Hp) (x y : Option AV) (F : AV → Prop) : Prop :=
  match x, y with
  | some (.sl sz l), some (.v (.int _ i)) => SlP P T fun _ sz' => cond (Nat.beq sz sz') (EachP l i fun el => F (.iptr el)) False
  | some (.row r ver len), some (.v (.int _ i)) => match lookB hp r with
    | some (.row _ sz ver' _) => SideP (ver = ver') (SlP P T fun _ sz' => cond (Nat.beq sz sz') (SideP (0 ≤ i ∧ i < len) (F (.elt r ver i.toNat 0))) False)
    | _ => False
  | some (.ref r o), some (.v (.int _ i)) => ArrP P T fun len sz => SideP (0 ≤ i ∧ i < len) (F (.ref r (o + i.toNat * sz)))
  | _, _ => False
def nilP (hp : Hp) (x : Option AV) (F : AV → Prop) : Prop :=
  match x with
  | some (.ref i o) => F (.ref i o)
  | some (.iptr l) => F (.iptr l)
  | some (.elt i ver k o) => match lookB hp i with
    | some (.row _ _ ver' _) => SideP (ver = ver') (F (.elt i ver k o))
    | _ => False
  | _ => False
def lenP (P : Program) (T : Nat) (hp : Hp) (x : Option AV) (F : AV → Prop) : Prop :=
  match x with
  | some (.sl _ l) => SlP P T fun _ _ => LenP l fun m => F (.i m)
  | some (.str s) => StrTP P T (F (.i s.length))
  | some (.row r ver len) => match lookB hp r with
    | some (.row _ _ ver' _) => SideP (ver = ver') (SlP P T fun _ _ => F (.i len))
    | _ => False
  | some (.v (.slice none 0 0)) => SlP P T fun _ _ => F (.i 0)
  | _ => False
def callP (P : Program) (f : Nat) (hp : Hp) (l caps : List AV) (F : AV → Prop) : Prop := cond (closedLB l) (CallP P f (l ++ caps) F) (LendP P f hp l caps F)
def sliceP (P : Program) (T : Nat) (ev : Operand → Option AV) (x : Option AV) (lo hi : Option Operand) (F : AV → Prop) : Prop :=
  match x with
  | some (.str s) => StrTP P T (match evB ev 0 lo, evB ev s.length hi with
    | some l, some h => SideP (0 ≤ l ∧ l ≤ h ∧ h ≤ s.length) (F (.str ((s.take h.toNat).drop l.toNat)))
    | _, _ => False)
  | some (.sl sz s) => SlP P T fun _ sz' => cond (Nat.beq sz sz') (match evB ev 0 lo, evB ev s.length hi with
    | some l, some h => SideP (0 ≤ l ∧ l ≤ h ∧ h ≤ s.length) (F (.sl sz ((s.take h.toNat).drop l.toNat)))
    | _, _ => False) False
  | _ => False
def lookupP (P : Program) (T : Nat) (hp : Hp) (ok : Bool) (x y : Option AV) (F : AV → Prop) : Prop :=
  match x, y with
  | some (.mp i), some kav => match lookB hp i, keyOf kav with
    | some (.map m), some k => MapP P T fun t z => cond (kindB t k) (SideP (MapKeys t m) (cond ok (AsP (.tup [mgetD m k z, .b (mget m k).isSome]) F) (AsP (mgetD m k z) F))) False
    | _, _ => False
  | _, _ => False

/-- An operation that hands back a value, what is left being F of it. -/
def OpV (P : Program) (op : Op) (ev : Operand → Option AV) (hp : Hp) (F : AV → Prop) : Prop :=
  match op with
  | .move x => withA (ev x) F
  | .assign x => withA (ev x) F
  | .pick c a b => match ev c with
    | some (.v (.bool t)) => CondP t (withA (ev a) F) (withA (ev b) F)
    | _ => False
  | .binOp op T x y _ => binP P T op (ev x) (ev y) F
  | .unOp .not _ x => match ev x with
    | some (.v (.bool b)) => F (.v (.bool (!b)))
    | _ => False
  | .unOp .neg _ x => match ev x with
    | some (.v (.int .i64 a)) => SideP (-9223372036854775807 ≤ a ∧ a ≤ 9223372036854775807) (F (.v (.int .i64 (-a))))
    | _ => False
  | .load T x => loadP P T hp (ev x) F
  | .fieldAddr S x f => FldP P S f fun off sz => cond (Nat.blt 0 sz) (fieldP hp off (ev x) F) False
  | .indexAddr T x y => indexP P T hp (ev x) (ev y) F
  | .index T x y => match ev x, ev y with
    | some (.str s), some (.v (.int _ i)) => StrTP P T (EachP s i fun b => F (.v (.int .u8 b.toNat)))
    | _, _ => False
  | .nilCheck x => nilP hp (ev x) F
  | .convert S T x => withA (ev x) fun a => ConvP P S T a F
  | .call ⟨.builtin .len, ⟨[x]⟩, ⟨[T]⟩⟩ => lenP P T hp (ev x) F
  | .call ⟨.builtin .min, ⟨[x, y]⟩, ⟨[_, _]⟩⟩ => match ev x, ev y with
    | some (.v (.int k a)), some (.v (.int k' b)) => cond (decide (k = k')) (F (.v (.int k (min a b)))) False
    | _, _ => False
  | .call ⟨.builtin .max, ⟨[x, y]⟩, ⟨[_, _]⟩⟩ => match ev x, ev y with
    | some (.v (.int k a)), some (.v (.int k' b)) => cond (decide (k = k')) (F (.v (.int k (max a b)))) False
    | _, _ => False
  | .call ⟨.value (.func f), ⟨args⟩, _⟩ => match evL ev args with
    | some l => callP P f hp l [] F
    | none => False
  | .call ⟨.value (.tmp t), ⟨args⟩, _⟩ => match ev (.tmp t), evL ev args with
    | some (.fn f caps), some l => callP P f hp l caps F
    | _, _ => False
  | .build T ⟨parts⟩ => match evP ev parts with
    | some ps => BuildP P T fun zs pl => FitsPP hp ps (withA ((fillA pl zs ps).map AV.agg) F)
    | none => False
  | .buildSlice T len ⟨parts⟩ => match evP ev parts with
    | some ps => RowP P T fun _ sz _ _ => cond (denseB 0 ps && allLenB sz (elsA ps) && Nat.beq ps.length len && Nat.blt 0 sz) (SideP (len * sz ≤ 16777216) (FitsPP hp ps (ImssP (elsA ps) (F (.sl sz (elsA ps)))))) False
    | none => False
  | .lookup T x y ok => lookupP P T hp ok (ev x) (ev y) F
  | .slice T x lo hi none => sliceP P T ev (ev x) lo hi F
  | .extract x k => match ev x with
    | some (.tup l) => withA (l[k]?) F
    | _ => False
  | .makeFunc (.func f) ⟨[]⟩ ⟨xs⟩ => match evL ev xs with
    | some caps => cond (closedLB caps) (F (.fn f caps)) False
    | none => False
  | _ => False

section sound
variable {P : Program} {E : Env} {nx : Nat} {hp : Hp} {ev : Operand → Option AV} {ty : TypeId} {x y : Operand} {F : AV → Prop} {T T2 : TypeId}

theorem binP_q {op : BinOp} (h : binP P T op (ev x) (ev y) F) : ∃ av, QOp P E nx hp ev (.binOp op T x y T2) ty av ∧ F av := by
  unfold binP at h
  split at h
  · rename_i hx hy; exact ⟨_, q_shl hx hy h.h, h.k⟩
  · rename_i hx hy; exact ⟨_, q_shr hx hy h.h, h.k⟩
  · rename_i hx hy
    obtain ⟨hk, hq⟩ := cond_false h
    clear h
    have hk := of_decide_eq_true hk
    subst hk
    unfold arithP at hq
    split at hq
    · exact ⟨_, q_binI hx hy (by simp only [binI, wrap64_of hq.h]), hq.k⟩
    · exact ⟨_, q_binI hx hy (by simp only [binI, wrap64_of hq.h]), hq.k⟩
    · exact ⟨_, q_binI hx hy (by simp only [binI, wrap64_of hq.h]), hq.k⟩
    · have hq2 := q_quo (P := P) (E := E) (nx := nx) (hp := hp) (ty := ty) (T := T) (T2 := T2) hx hy hq.h.1
      rw [wrap64_of hq.h.2] at hq2
      exact ⟨_, hq2, hq.k⟩
    · exact ⟨_, q_quo hx hy hq.h, hq.k⟩
    · exact ⟨_, q_rem hx hy hq.h, hq.k⟩
    · split at hq
      · rename_i hr; exact ⟨_, q_binI hx hy hr, hq⟩
      · exact hq.elim
  · rename_i s t hx hy
    unfold strP at h
    split at h
    · exact ⟨_, q_addS hx hy h.h, h.k⟩
    · split at h
      · rename_i hr; exact ⟨_, q_binS hx hy hr, h⟩
      · exact h.elim
  · rename_i a b hx hy
    unfold boolP at h
    split at h
    · have := h.h; exact ⟨_, q_eqB (T := T) false hx hy, h.k⟩
    · have := h.h; exact ⟨_, q_eqB (T := T) true hx hy, h.k⟩
    · exact h.elim
  · exact h.elim

theorem loadP_q (h : loadP P T hp (ev x) F) : ∃ av, QOp P E nx hp ev (.load T x) ty av ∧ F av := by
  unfold loadP at h
  split at h
  · rename_i i off hx
    split at h
    · rename_i l hb
      obtain ⟨⟨ag, sz, tv, h⟩⟩ := h
      cases ag with
      | true =>
        change cond (Nat.beq off 0 && Nat.beq l.length sz) _ _ at h
        cases hc : (Nat.beq off 0 && Nat.beq l.length sz) with
        | true =>
          rw [hc] at h
          simp only [Bool.and_eq_true, Nat.beq_eq] at hc
          obtain ⟨rfl, hs⟩ := hc
          exact ⟨_, q_load_box (sz := sz) hx hb hs, h⟩
        | false =>
          rw [hc] at h
          exact ⟨_, q_load_ref_agg (sz := sz) hx hb rfl h.h, h.k⟩
      | false =>
        obtain ⟨av, hl, h⟩ := withA_spec h
        exact ⟨_, q_load_ref (sz := sz) hx hb hl, h⟩
    · exact h.elim
  · rename_i l hx
    obtain ⟨⟨ag, sz, tv, h⟩⟩ := h
    cases ag with
    | true =>
      change cond (Nat.beq l.length sz) _ _ at h
      cases hc : Nat.beq l.length sz with
      | true =>
        rw [hc] at h
        exact ⟨_, q_load_iptr_agg (sz := sz) hx (by rw [← Nat.eq_of_beq_eq_true hc, List.take_length]) (Nat.eq_of_beq_eq_true hc), h⟩
      | false =>
        rw [hc] at h
        exact ⟨_, q_load_iptr_agg (sz := sz) hx rfl h.h, h.k⟩
    | false =>
      cases l with
      | nil => exact h.elim
      | cons av r => exact ⟨_, q_load_iptr (sz := sz) hx, h⟩
  · rename_i i ver k off hx
    split at h
    · rename_i e sz ver' l hb
      obtain ⟨rfl, hq⟩ := h
      obtain ⟨h0, h1, hk⟩ := hq
      have hlt : k < l.length := by omega
      have hel : l[k]? = some l[k] := List.getElem?_eq_getElem hlt
      obtain ⟨⟨ag, szT, tv, h⟩⟩ := hk l[k] (by rw [Int.toNat_natCast]; exact hel)
      cases ag with
      | true =>
        obtain ⟨hc, h2⟩ := cond_false h
        simp only [Bool.and_eq_true, Nat.beq_eq] at hc
        obtain ⟨rfl, hs⟩ := hc
        exact ⟨_, q_load_elt_agg hx hb hel hs, h2⟩
      | false =>
        obtain ⟨av, hl, h⟩ := withA_spec h
        exact ⟨_, q_load_elt (szT := szT) hx hb hel hl, h⟩
    · exact h.elim
  · exact h.elim

theorem fieldP_q {S f off sz : Nat} [tf : TFld P S f off sz] (hz : Nat.blt 0 sz = true) (h : fieldP hp off (ev x) F) : ∃ av, QOp P E nx hp ev (.fieldAddr S x f) ty av ∧ F av := by
  unfold fieldP at h
  split at h
  · rename_i hx; exact ⟨_, q_field_ref (off := off) (sz := sz) hx hz, h⟩
  · rename_i hx; exact ⟨_, q_field_iptr (off := off) (sz := sz) hx hz, h⟩
  · rename_i hx
    split at h
    · rename_i hb
      obtain ⟨rfl, h⟩ := h
      exact ⟨_, q_field_elt (off := off) (sz := sz) hx hb hz, h⟩
    · exact h.elim
  · exact h.elim

theorem indexP_q (h : indexP P T hp (ev x) (ev y) F) : ∃ av, QOp P E nx hp ev (.indexAddr T x y) ty av ∧ F av := by
  unfold indexP at h
  split at h
  · rename_i hx hy
    obtain ⟨⟨e, sz', ts, h⟩⟩ := h
    obtain ⟨hz, hq⟩ := cond_false h
    clear h
    have := Nat.eq_of_beq_eq_true hz
    subst this
    obtain ⟨h0, h1, hk⟩ := hq
    rename_i sz l kk i
    have hlt : i.toNat < l.length := by omega
    have hel : l[i.toNat]? = some l[i.toNat] := List.getElem?_eq_getElem hlt
    exact ⟨_, q_index_sl (e := e) hx hy h0 hel, hk _ hel⟩
  · rename_i hx hy
    split at h
    · rename_i hb
      obtain ⟨rfl, h⟩ := h
      obtain ⟨⟨e, sz', ts, h⟩⟩ := h
      obtain ⟨hz, hq⟩ := cond_false h
      clear h
      have := Nat.eq_of_beq_eq_true hz
      subst this
      exact ⟨_, q_index_row (e := e) hx hb hy hq.h.1 hq.h.2, hq.k⟩
    · exact h.elim
  · rename_i hx hy
    obtain ⟨⟨len, e, sz, ta, h⟩⟩ := h
    exact ⟨_, q_index_arr (e := e) (sz := sz) hx hy h.h.1 h.h.2, h.k⟩
  · exact h.elim

theorem nilP_q (h : nilP hp (ev x) F) : ∃ av, QOp P E nx hp ev (.nilCheck x) ty av ∧ F av := by
  unfold nilP at h
  split at h
  · rename_i hx; exact ⟨_, q_nil_ref hx, h⟩
  · rename_i hx; exact ⟨_, q_nil_iptr hx, h⟩
  · rename_i hx
    split at h
    · rename_i hb
      obtain ⟨rfl, h⟩ := h
      exact ⟨_, q_nil_elt hx hb, h⟩
    · exact h.elim
  · exact h.elim

theorem lenP_q (h : lenP P T hp (ev x) F) : ∃ av, QOp P E nx hp ev (.call ⟨.builtin .len, #[x], #[T]⟩) ty av ∧ F av := by
  unfold lenP at h
  split at h
  · rename_i hx
    obtain ⟨⟨e, sz, ts, h⟩⟩ := h
    exact ⟨_, q_len_sl (e := e) (sz := sz) hx, h.k⟩
  · rename_i hx
    obtain ⟨ts, h⟩ := h
    exact ⟨_, q_len_str hx, h⟩
  · rename_i hx
    split at h
    · rename_i hb
      obtain ⟨rfl, h⟩ := h
      obtain ⟨⟨e, sz, ts, h⟩⟩ := h
      exact ⟨_, q_len_row (e := e) (sz := sz) hx hb, h⟩
    · exact h.elim
  · rename_i hx
    obtain ⟨⟨e, sz, ts, h⟩⟩ := h
    exact ⟨_, q_len_nil (e := e) (sz := sz) hx, h⟩
  · exact h.elim

theorem sliceP_q {lo hi : Option Operand} (h : sliceP P T ev (ev x) lo hi F) : ∃ av, QOp P E nx hp ev (.slice T x lo hi none) ty av ∧ F av := by
  unfold sliceP at h
  split at h
  · rename_i hx
    obtain ⟨ts, h⟩ := h
    split at h
    · rename_i hl hh; exact ⟨_, q_slice_str hx hl hh h.h.1 h.h.2.1 h.h.2.2, h.k⟩
    · exact h.elim
  · rename_i hx
    obtain ⟨⟨e, sz', ts, h⟩⟩ := h
    obtain ⟨hz, hq⟩ := cond_false h
    clear h
    have := Nat.eq_of_beq_eq_true hz
    subst this
    split at hq
    · rename_i hl hh; exact ⟨_, q_slice_sl (e := e) hx hl hh hq.h.1 hq.h.2.1 hq.h.2.2, hq.k⟩
    · exact hq.elim
  · exact h.elim

theorem lookupP_q {ok : Bool} (h : lookupP P T hp ok (ev x) (ev y) F) : ∃ av, QOp P E nx hp ev (.lookup T x y ok) ty av ∧ F av := by
  unfold lookupP at h
  split at h
  · rename_i hx hy
    split at h
    · rename_i hb hk
      obtain ⟨⟨k, e, t, z, tm, h⟩⟩ := h
      obtain ⟨hkb, hq⟩ := cond_false h
      cases ok with
      | true => exact ⟨_, q_lookup_ok (T := T) hx hb hy hk hkb hq.h, hq.k.h⟩
      | false => exact ⟨_, q_lookup (T := T) hx hb hy hk hkb hq.h, hq.k.h⟩
    · exact h.elim
  · exact h.elim

theorem opV_q {op : Op} (h : OpV P op ev hp F) : ∃ av, QOp P E nx hp ev op ty av ∧ F av := by
  unfold OpV at h
  split at h
  · obtain ⟨a, hx, h⟩ := withA_spec h; exact ⟨a, q_move hx, h⟩
  · obtain ⟨a, hx, h⟩ := withA_spec h; exact ⟨a, q_assign hx, h⟩
  · split at h
    · rename_i t hc
      obtain ⟨h1, h2⟩ := h
      cases t with
      | true => obtain ⟨a, hx, h⟩ := withA_spec (h1 rfl); exact ⟨a, q_pick_t hc hx, h⟩
      | false => obtain ⟨a, hx, h⟩ := withA_spec (h2 rfl); exact ⟨a, q_pick_f hc hx, h⟩
    · exact h.elim
  · exact binP_q h
  · split at h
    · rename_i hx; exact ⟨_, q_not hx, h⟩
    · exact h.elim
  · split at h
    · rename_i a hx
      have h1 := h.h
      refine ⟨_, q_neg hx, ?_⟩
      rw [wrap64_of (by omega)]
      exact h.k
    · exact h.elim
  · exact loadP_q h
  · obtain ⟨⟨off, sz, tf, h⟩⟩ := h
    obtain ⟨hz, h⟩ := cond_false h
    exact fieldP_q (off := off) (sz := sz) hz h
  · exact indexP_q h
  · split at h
    · rename_i s k i hx hy
      obtain ⟨ts, h0, h1, hk⟩ := h
      have hlt : i.toNat < s.length := by omega
      have hel : s[i.toNat]? = some s[i.toNat] := List.getElem?_eq_getElem hlt
      exact ⟨_, q_index_str hx hy h0 hel, hk _ hel⟩
    · exact h.elim
  · exact nilP_q h
  · obtain ⟨a, hx, h⟩ := withA_spec h
    obtain ⟨⟨r, hr, h⟩⟩ := h
    cases hr with
    | bytes l hl => rename_i e sz _ _ _; exact ⟨_, q_str_bytes (e := e) (sz := sz) hx hl, h⟩
    | int m => exact ⟨_, q_conv_int hx, h⟩
    | rune m => exact ⟨_, q_conv_rune hx, h⟩
  · exact lenP_q h
  · split at h
    · rename_i hx hy
      obtain ⟨hk, h2⟩ := cond_false h
      have := of_decide_eq_true hk
      subst this
      exact ⟨_, q_min hx hy, h2⟩
    · exact h.elim
  · split at h
    · rename_i hx hy
      obtain ⟨hk, h2⟩ := cond_false h
      have := of_decide_eq_true hk
      subst this
      exact ⟨_, q_max hx hy, h2⟩
    · exact h.elim
  · split at h
    · rename_i l hl
      unfold callP at h
      cases hc : closedLB l with
      | true =>
        rw [hc] at h
        obtain ⟨⟨r, hr, h⟩⟩ := h
        rw [List.append_nil] at hr
        exact ⟨_, q_call hr hl hc, h⟩
      | false =>
        rw [hc] at h
        obtain ⟨⟨is, L, r, hL, hcl, hr, hfl, h⟩⟩ := h
        exact ⟨_, q_lend is hr hl hL hcl hfl fun _ _ _ _ => ⟨[], rfl, rfl, fun j x c hx => by simp at hx⟩, h⟩
    · exact h.elim
  · split at h
    · rename_i f caps l hg hl
      unfold callP at h
      cases hc : closedLB l with
      | true =>
        rw [hc] at h
        obtain ⟨⟨r, hr, h⟩⟩ := h
        exact ⟨_, q_callv hg hr hl hc, h⟩
      | false =>
        rw [hc] at h
        obtain ⟨⟨is, L, r, hL, hcl, hr, hfl, h⟩⟩ := h
        refine ⟨_, q_lend is hr hl hL hcl hfl fun θ a w h => ?_, h⟩
        have := (h.rel hg)
        generalize a.eval _ = v at this
        cases this with
        | im hi => cases hi with | fn f l cs hl hc => exact ⟨cs, rfl, hl, hc⟩
    · exact h.elim
  · split at h
    · rename_i ps hps
      obtain ⟨⟨zs, pl, tz, tp, h⟩⟩ := h
      obtain ⟨hf, h⟩ := fitsPP_spec h
      obtain ⟨a, ha, h⟩ := withA_spec h
      rw [Option.map_eq_some_iff] at ha
      obtain ⟨l, hl, rfl⟩ := ha
      exact ⟨_, q_build (T := _) hps hf hl, h⟩
    · exact h.elim
  · split at h
    · rename_i ps hps
      obtain ⟨⟨e, sz, bs, z, ts, tz, tb, hz, h⟩⟩ := h
      obtain ⟨hc, h⟩ := cond_false h
      simp only [Bool.and_eq_true, Nat.beq_eq, Nat.blt_eq] at hc
      obtain ⟨hs, h⟩ := h
      obtain ⟨hf, h⟩ := fitsPP_spec h
      obtain ⟨hi, h⟩ := imssP_spec h
      exact ⟨_, q_buildSlice (e := e) (z := z) hps hf hc.1.1.1 hc.1.1.2 hc.1.2 hz hs hc.2 hi, h⟩
    · exact h.elim
  · exact lookupP_q h
  · exact sliceP_q h
  · split at h
    · rename_i hx
      obtain ⟨a, ha, h⟩ := withA_spec h
      exact ⟨a, q_extract hx ha, h⟩
    · exact h.elim
  · split at h
    · rename_i caps hc
      obtain ⟨hcl, h⟩ := cond_false h
      exact ⟨_, q_makeFunc hc hcl, h⟩
    · exact h.elim
  · exact h.elim
end sound
end Go.Av
